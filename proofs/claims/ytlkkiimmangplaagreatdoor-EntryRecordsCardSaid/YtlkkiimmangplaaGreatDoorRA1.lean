/- Parts: F, G, H, I, A0, K, L, M, R, S, N, B, C, T, U, V, O. -/
import Derived.Test.YtlkkiimmangplaaGreatDoorProg
import Derived.WalkKit
import Derived.WalkLawsBesides
import Derived.Lib.Hide
import Derived.Deep.LoopGhost
import Derived.BigQuiet
import Derived.Deep.QuietTactic
import Derived.ChangeAgain
import Derived.Lib.AppendIntMem
import Derived.Laws.StructEq
import Derived.Deep.Quiet
import Derived.Orders
import Derived.Laws.BytesArg
import Derived.WideMake
import Derived.ArgAppend
import Derived.Laws.AppendOwn
import Derived.Laws.CopyOwn
/- A small frame for walks: slots as a list, own memory as a list of blocks, and one step for each kind of operation. -/
namespace Go.Proofs.YtlkkiimmangplaaGreatDoor
open Go.RowKit

/-! ### Slots -/
abbrev Env := List (Nat × Value)
def Env.find : Env → Nat → Option Value
  | [], _ => none
  | (k, v) :: r, i => bif Nat.beq k i then some v else Env.find r i

structure Fits (n : Nat) (ρ : Env) (a : Act) : Prop where
  defers : a.defers = []
  size : a.tmps.size = n
  at_ : ∀ i v, Env.find ρ i = some v → a.tmps[i]? = some v

def ev (ρ : Env) : Operand → Option Value
  | .tmp t => Env.find ρ t
  | .const v => some v
  | .global g => some (.pointer (some ⟨g, 0, none⟩))
  | .func f => some (.func (.func f) #[] #[])

theorem Fits.eval {n : Nat} {ρ : Env} {a : Act} (h : Fits n ρ a) {x : Operand} {v : Value} (hx : ev ρ x = some v) : a.eval x = v := by
  cases x with
  | tmp t =>
    have := h.at_ t v hx
    simp [Act.eval, this]
  | const c => simpa [ev, Act.eval] using hx
  | global g => simpa [ev, Act.eval] using hx
  | func f => simpa [ev, Act.eval] using hx

theorem Fits.put {n d : Nat} {ρ : Env} {a : Act} {v : Value} (h : Fits n ρ a) (hd : Nat.blt d n = true) : Fits n ((d, v) :: ρ) (a.put (some d) v) := by
  have hd' : d < n := by simpa [Nat.blt, Nat.succ_le_iff] using hd
  refine ⟨h.defers, by simp [Act.put, h.size], fun i u hi => ?_⟩
  simp only [Act.put]
  unfold Env.find at hi
  by_cases he : d = i
  · subst he
    simp at hi
    subst hi
    simp [h.size, hd']
  · have hb : Nat.beq d i = false := by
      cases hq : Nat.beq d i with
      | false => rfl
      | true => exact absurd (Nat.eq_of_beq_eq_true hq) he
    rw [hb] at hi
    simp only [cond_false] at hi
    rw [Array.getElem?_setIfInBounds_ne (by omega)]
    exact h.at_ i u hi

theorem Fits.none_ {n : Nat} {ρ : Env} {a : Act} {v : Value} (h : Fits n ρ a) : Fits n ρ (a.put none v) := h

def dput (d : Option Nat) (v : Value) (ρ : Env) : Env := match d with | some d => (d, v) :: ρ | none => ρ
def dlt (d : Option Nat) (n : Nat) : Bool := match d with | some d => Nat.blt d n | none => true
theorem Fits.dput {n : Nat} {d : Option Nat} {ρ : Env} {a : Act} {v : Value} (h : Fits n ρ a) (hd : dlt d n = true) : Fits n (dput d v ρ) (a.put d v) := by
  cases d with
  | none => exact h
  | some d => exact h.put hd

/-- Fewer slots are told, or in another order. -/
def Env.sub (ρ' ρ : Env) : Prop := ∀ i v, Env.find ρ' i = some v → Env.find ρ i = some v
theorem Fits.sub {n : Nat} {ρ ρ' : Env} {a : Act} (h : Fits n ρ a) (hs : Env.sub ρ' ρ) : Fits n ρ' a := ⟨h.defers, h.size, fun i v hi => h.at_ i v (hs i v hi)⟩
theorem Env.sub_nil {ρ : Env} : Env.sub [] ρ := fun i v h => by simp [Env.find] at h
theorem Env.sub_cons {ρ ρ' : Env} {k : Nat} {v : Value} (h : Env.find ρ k = some v) (hs : Env.sub ρ' ρ) : Env.sub ((k, v) :: ρ') ρ := fun i u hi => by
  unfold Env.find at hi
  cases hq : Nat.beq k i with
  | true =>
    rw [hq] at hi
    simp at hi
    subst hi
    rw [← Nat.eq_of_beq_eq_true hq]
    exact h
  | false =>
    rw [hq] at hi
    exact hs i u hi

/-! ### Own memory -/
inductive It
  | blk (g : Nat) (t : TypeId) (cs : Array Value)
  | row (e : TypeId) (sz : Nat) (v : Value) (n : Nat) (xs : List Value)
  | map (g : Nat) (es : Array MapEntry) (clock : Nat)
  | obj (g : Nat) (o : Obj)
  | nil

def It.key : It → Option Nat
  | .blk g _ _ => some g
  | .row _ _ v _ _ => v.ownBlock
  | .map g _ _ => some g
  | .obj g _ => some g
  | .nil => none

def It.ok (B : Nat) (w : World) : It → Prop
  | .blk g t cs => B ≤ g ∧ w.heap[g]? = some (.cells cs t (0, 0))
  | .row e sz v n xs => w.ownsRow B e sz v n xs
  | .map g es c => B ≤ g ∧ w.heap[g]? = some (.map es c)
  | .obj g o => B ≤ g ∧ w.heap[g]? = some o
  | .nil => True

theorem lt_of_heap {w : World} {g : Nat} {o : Obj} (h : w.heap[g]? = some o) : g < w.heap.size := (Array.getElem?_eq_some_iff.1 h).1

theorem It.base {B : Nat} {w : World} {i : It} (h : It.ok B w i) {k : Nat} (hk : i.key = some k) : B ≤ k ∧ k < w.heap.size := by
  cases i with
  | nil => cases hk
  | blk g t cs => simp [It.key] at hk; subst hk; exact ⟨h.1, lt_of_heap h.2⟩
  | map g es c => simp [It.key] at hk; subst hk; exact ⟨h.1, lt_of_heap h.2⟩
  | obj g o => simp [It.key] at hk; subst hk; exact ⟨h.1, lt_of_heap h.2⟩
  | row e sz v n xs =>
    rcases h.2 with ⟨rfl, _⟩ | ⟨g, cap, cur, rfl, hb, hh, _⟩
    · simp [It.key, Value.ownBlock] at hk
    · simp [It.key, Value.ownBlock] at hk
      subst hk
      exact ⟨hb, lt_of_heap hh⟩

theorem It.keep {B : Nat} {w w' : World} {i : It} (h : It.ok B w i) (hk : ∀ k, i.key = some k → w'.heap[k]? = w.heap[k]?) : It.ok B w' i := by
  cases i with
  | nil => trivial
  | blk g t cs => exact ⟨h.1, (hk g rfl).trans h.2⟩
  | map g es c => exact ⟨h.1, (hk g rfl).trans h.2⟩
  | obj g o => exact ⟨h.1, (hk g rfl).trans h.2⟩
  | row e sz v n xs =>
    refine ⟨h.1, ?_⟩
    rcases h.2 with h2 | ⟨g, cap, cur, rfl, hb, hh, r⟩
    · exact .inl h2
    · exact .inr ⟨g, cap, cur, rfl, hb, (hk g rfl).trans hh, r⟩

theorem It.lower {B B' : Nat} {w : World} {i : It} (h : It.ok B w i) (hB : B' ≤ B) : It.ok B' w i := by
  cases i with
  | nil => trivial
  | blk g t cs => exact ⟨Nat.le_trans hB h.1, h.2⟩
  | map g es c => exact ⟨Nat.le_trans hB h.1, h.2⟩
  | obj g o => exact ⟨Nat.le_trans hB h.1, h.2⟩
  | row e sz v n xs =>
    refine ⟨h.1, ?_⟩
    rcases h.2 with h2 | ⟨g, cap, cur, rfl, hb, r⟩
    · exact .inl h2
    · exact .inr ⟨g, cap, cur, rfl, Nat.le_trans hB hb, r⟩

/-- Own blocks, each another one; what lay there before is as it was. -/
structure St (w0 : World) (H : List It) (w : World) : Prop where
  below : Below w0.heap.size w0 w
  ok : ∀ (i : Nat) (x : It), H[i]? = some x → It.ok w0.heap.size w x
  apart : ∀ (i j : Nat) (x y : It), H[i]? = some x → H[j]? = some y → i ≠ j → ∀ k, x.key = some k → y.key ≠ some k

theorem St.refl (w : World) : St w [] w := ⟨Below.refl _ _, fun _ _ h => by simp at h, fun _ _ _ _ h => by simp at h⟩

theorem St.size {w0 w : World} {H : List It} (h : St w0 H w) : w0.heap.size ≤ w.heap.size := h.below.size

/-- Behind a call (or any step) that leaves all that there was, and lays H'. -/
theorem St.call {w0 w w' : World} {H H' : List It} (h : St w0 H w) (k : St w H' w') : St w0 (H' ++ H) w' := by
  have hk : ∀ (i : Nat) (x : It), (H' ++ H)[i]? = some x → (i < H'.length ∧ H'[i]? = some x) ∨ (H'.length ≤ i ∧ H[i - H'.length]? = some x) := fun i x hx => by
    rcases Nat.lt_or_ge i H'.length with hi | hi
    · rw [List.getElem?_append_left hi] at hx; exact .inl ⟨hi, hx⟩
    · rw [List.getElem?_append_right hi] at hx; exact .inr ⟨hi, hx⟩
  refine ⟨h.below.trans (k.below.mono h.size), ?_, ?_⟩
  · intro i x hx
    rcases hk i x hx with ⟨_, hx⟩ | ⟨_, hx⟩
    · exact It.lower (k.ok i x hx) h.size
    · exact It.keep (h.ok _ x hx) fun b hb => k.below.block b (It.base (h.ok _ x hx) hb).2
  · intro i j x y hx hy hij b hb hb'
    rcases hk i x hx with ⟨h1, hx⟩ | ⟨h1, hx⟩ <;> rcases hk j y hy with ⟨h2, hy⟩ | ⟨h2, hy⟩
    · exact k.apart i j x y hx hy hij b hb hb'
    · have := (It.base (k.ok _ x hx) hb).1
      have := (It.base (h.ok _ y hy) hb').2
      omega
    · have := (It.base (h.ok _ x hx) hb).2
      have := (It.base (k.ok _ y hy) hb').1
      omega
    · exact h.apart _ _ x y hx hy (by omega) b hb hb'

theorem St.drew {w0 w : World} {H : List It} (h : St w0 H w) : St w0 H w.drew :=
  ⟨h.below.drew, fun i x hi => It.keep (h.ok i x hi) fun _ _ => rfl, h.apart⟩

theorem St.new (w : World) (t : TypeId) (cs : Array Value) : St w [.blk w.heap.size t cs] (w.alloc (.cells cs t)) :=
  ⟨(Below.refl _ _).alloc (Nat.le_refl _) _, fun i x hi => by
    cases i with
    | zero => simp at hi; subst hi; exact ⟨Nat.le_refl _, heap_alloc_new w _⟩
    | succ i => simp at hi, fun i j x y hx hy hij => by
    cases i <;> cases j <;> simp_all⟩

theorem St.alloc {w0 w : World} {H : List It} (h : St w0 H w) (t : TypeId) (cs : Array Value) : St w0 (.blk w.heap.size t cs :: H) (w.alloc (.cells cs t)) :=
  h.call (St.new w t cs)

/-- The items with these numbers (each once). -/
def sel (H : List It) (l : List Nat) : List It := l.map fun i => H.getD i .nil
def selOk (H : List It) (l : List Nat) : Bool := l.all (fun i => Nat.blt i H.length) && decide l.Nodup

theorem St.sel {w0 w : World} {H : List It} (h : St w0 H w) (l : List Nat) (hl : selOk H l = true) : St w0 (sel H l) w := by
  simp only [selOk, Bool.and_eq_true, decide_eq_true_eq, List.all_eq_true] at hl
  obtain ⟨h1, h2⟩ := hl
  have hg : ∀ (i : Nat) (x : It), (Go.Proofs.YtlkkiimmangplaaGreatDoor.sel H l)[i]? = some x → ∃ (hi : i < l.length), H[l[i]]? = some x := by
    intro i x hx
    have hi : i < l.length := by
      rcases Nat.lt_or_ge i l.length with h' | h'
      · exact h'
      · rw [List.getElem?_eq_none (by simpa [Go.Proofs.YtlkkiimmangplaaGreatDoor.sel] using h')] at hx; cases hx
    refine ⟨hi, ?_⟩
    have hlt : l[i] < H.length := by
      have := h1 l[i] (List.getElem_mem hi)
      simpa [Nat.blt, Nat.succ_le_iff] using this
    simp only [Go.Proofs.YtlkkiimmangplaaGreatDoor.sel, List.getElem?_map, List.getElem?_eq_getElem hi, Option.map_some, List.getD_eq_getElem?_getD, List.getElem?_eq_getElem hlt, Option.getD_some] at hx
    rw [List.getElem?_eq_getElem hlt]
    exact hx
  refine ⟨h.below, fun i x hx => ?_, fun i j x y hx hy hij k hk hk' => ?_⟩
  · obtain ⟨_, hx⟩ := hg i x hx
    exact h.ok _ x hx
  · obtain ⟨hi, hx⟩ := hg i x hx
    obtain ⟨hj, hy⟩ := hg j y hy
    exact h.apart _ _ x y hx hy (fun e => hij ((List.getElem_inj h2).1 e)) k hk hk'

/-- An item takes the place of another one in the same block, behind a step that turned no other block. -/
theorem St.swap {w0 w w' : World} {H : List It} (h : St w0 H w) (i : Nat) {x x' : It} (hi : H[i]? = some x) (hkey : ∀ k, x'.key = some k → x.key = some k ∨ w.heap.size ≤ k) (hok : It.ok w0.heap.size w' x')
    (hb : Below w0.heap.size w0 w') (hkeep : ∀ k, k < w.heap.size → x.key ≠ some k → w'.heap[k]? = w.heap[k]?) : St w0 (H.set i x') w' := by
  have hlen : i < H.length := (List.getElem?_eq_some_iff.1 hi).1
  refine ⟨hb, fun j y hy => ?_, fun j l y z hy hz hjl k hk hk' => ?_⟩
  · by_cases hji : i = j
    · subst hji
      rw [List.getElem?_set_self hlen] at hy
      injection hy with hy
      subst hy
      exact hok
    · rw [List.getElem?_set_ne hji] at hy
      exact It.keep (h.ok j y hy) fun k hk => hkeep k (It.base (h.ok j y hy) hk).2 (fun e => h.apart i j x y hi hy hji k e hk)
  · by_cases hji : i = j
    · subst hji
      rw [List.getElem?_set_self hlen] at hy
      injection hy with hy
      subst hy
      rw [List.getElem?_set_ne hjl] at hz
      rcases hkey k hk with e | e
      · exact h.apart i l x z hi hz hjl k e hk'
      · have := (It.base (h.ok l z hz) hk').2
        omega
    · rw [List.getElem?_set_ne hji] at hy
      by_cases hli : i = l
      · subst hli
        rw [List.getElem?_set_self hlen] at hz
        injection hz with hz
        subst hz
        rcases hkey k hk' with e | e
        · exact h.apart j i y x hy hi hjl k hk e
        · have := (It.base (h.ok j y hy) hk).2
          omega
      · rw [List.getElem?_set_ne hli] at hz
        exact h.apart j l y z hy hz hjl k hk hk'

end Go.Proofs.YtlkkiimmangplaaGreatDoor

/- The steps: what each kind of operation does to the slots and to own memory. -/
namespace Go.Proofs.YtlkkiimmangplaaGreatDoor
open Go.RowKit



def onB (ops : Array Oper) (ρ : Env) (o : Oper) : Option Bool :=
  match o.guard with
  | none => some true
  | some (j, b) => match (ops[j]?).bind (·.dst) with
    | some s => match Env.find ρ s with
      | some (.bool c) => some (c == b)
      | _ => none
    | none => none

theorem wanted_of {n : Nat} {ρ : Env} {a : Act} {ops : Array Oper} {o : Oper} {b : Bool} (hf : Fits n ρ a) (h : onB ops ρ o = some b) : Region.wanted o (yielded ops a.tmps) = b := by
  unfold onB at h
  unfold Region.wanted
  cases hg : o.guard with
  | none => rw [hg] at h; simpa using h
  | some jb =>
    obtain ⟨j, want⟩ := jb
    rw [hg] at h
    simp only at h ⊢
    cases hs : (ops[j]?).bind (·.dst) with
    | none => rw [hs] at h; simp at h
    | some s =>
      rw [hs] at h
      simp only at h
      cases hv : Env.find ρ s with
      | none => rw [hv] at h; simp at h
      | some v =>
        rw [hv] at h
        have ht := hf.at_ s v hv
        cases v <;> simp at h
        rename_i c
        have hy : yielded ops a.tmps j = some c := by
          unfold yielded
          rw [hs]
          simp [ht]
        rw [hy, ← h]
        cases c <;> cases want <;> rfl

/-- The rest of a region, from any frame and memory that fit. -/
def WL (w0 : World) (n : Nat) (ops : Array Oper) (Q : Exit → Act → World → Prop) (l : List Oper) (ρ : Env) (H : List It) : Prop :=
  ∀ a w, Fits n ρ a → St w0 H w → wpList Tryz.prog ops Q l a w
def WC (w0 : World) (n : Nat) (Q : Exit → Act → World → Prop) (c : Code) (ρ : Env) (H : List It) : Prop :=
  ∀ a w, Fits n ρ a → St w0 H w → c.wp Tryz.prog Q a w
def End (w0 : World) (n : Nat) (Q : Exit → Act → World → Prop) (x : Exit) (ρ : Env) (H : List It) : Prop :=
  ∀ a w, Fits n ρ a → St w0 H w → Q x a w

section
variable {w0 : World} {n : Nat} {ops : Array Oper} {Q : Exit → Act → World → Prop} {o : Oper} {rest : List Oper} {ρ : Env} {H : List It}

theorem WL.nil_ (h : End w0 n Q .normal ρ H) : WL w0 n ops Q [] ρ H := fun a w hf hs => wpList_nil (h a w hf hs)

theorem WL.off (hon : onB ops ρ o = some false) (hd : dlt o.dst n = true) (k : WL w0 n ops Q rest (dput o.dst undef ρ) H) : WL w0 n ops Q (o :: rest) ρ H := fun a w hf hs => by
  unfold wpList
  rw [if_neg (by rw [wanted_of hf hon]; simp)]
  exact k _ _ (hf.dput hd) hs

theorem WL.on (hon : onB ops ρ o = some true) (h : ∀ a w, Fits n ρ a → St w0 H w → o.wp Tryz.prog a w (wpList Tryz.prog ops Q rest) Q) : WL w0 n ops Q (o :: rest) ρ H := fun a w hf hs => by
  unfold wpList
  rw [if_pos (wanted_of hf hon)]
  exact .inl (h a w hf hs)

/-- A value; memory may change to what H' tells. -/
theorem WL.val {d : Nat} {v : Value} {H' : List It} (hon : onB ops ρ o = some true) (ho : o.dst = some d) (hd : Nat.blt d n = true)
    (hr : ∀ a w, Fits n ρ a → St w0 H w → ∃ w', (execOp a.eval o).run Tryz.prog w = .ok (.value v) w' ∧ St w0 H' w') (k : WL w0 n ops Q rest ((d, v) :: ρ) H') : WL w0 n ops Q (o :: rest) ρ H :=
  WL.on hon fun a w hf hs => by
    obtain ⟨w', h1, h2⟩ := hr a w hf hs
    unfold Oper.wp
    rw [h1, Oper.upon_value, ho]
    exact k _ _ (hf.put hd) h2

theorem WL.valx {α : Type} {d : Nat} {v : α → Value} {H' : α → List It} {S : α → Prop} (hon : onB ops ρ o = some true) (ho : o.dst = some d) (hd : Nat.blt d n = true)
    (hr : ∀ a w, Fits n ρ a → St w0 H w → ∃ x w', S x ∧ (execOp a.eval o).run Tryz.prog w = .ok (.value (v x)) w' ∧ St w0 (H' x) w') (k : ∀ x, S x → WL w0 n ops Q rest ((d, v x) :: ρ) (H' x)) : WL w0 n ops Q (o :: rest) ρ H :=
  WL.on hon fun a w hf hs => by
    obtain ⟨x, w', hS, h1, h2⟩ := hr a w hf hs
    unfold Oper.wp
    rw [h1, Oper.upon_value, ho]
    exact k x hS _ _ (hf.put hd) h2

theorem WL.skip_ {H' : List It} (hon : onB ops ρ o = some true) (ho : o.dst = none)
    (hr : ∀ a w, Fits n ρ a → St w0 H w → ∃ w', (execOp a.eval o).run Tryz.prog w = .ok .skip w' ∧ St w0 H' w') (k : WL w0 n ops Q rest ρ H') : WL w0 n ops Q (o :: rest) ρ H :=
  WL.on hon fun a w hf hs => by
    obtain ⟨w', h1, h2⟩ := hr a w hf hs
    unfold Oper.wp
    rw [h1, Oper.upon_skip, ho]
    exact k _ _ hf.none_ h2

/-- Pure: the world as it was. -/
theorem WL.pure_ {d : Nat} {v : Value} (hon : onB ops ρ o = some true) (ho : o.dst = some d) (hd : Nat.blt d n = true)
    (hr : ∀ a w, Fits n ρ a → St w0 H w → (execOp a.eval o).run Tryz.prog w = .ok (.value v) w) (k : WL w0 n ops Q rest ((d, v) :: ρ) H) : WL w0 n ops Q (o :: rest) ρ H :=
  WL.val hon ho hd (fun a w hf hs => ⟨w, hr a w hf hs, hs⟩) k

/-- What an operation yields, without a change of the world, wherever slots and memory fit. -/
def Pure (w0 : World) (n : Nat) (ρ : Env) (H : List It) (o : Oper) (v : Value) : Prop := ∀ a w, Fits n ρ a → St w0 H w → (execOp a.eval o).run Tryz.prog w = .ok (.value v) w
theorem WL.p {d : Nat} {v : Value} (hon : onB ops ρ o = some true) (ho : o.dst = some d) (hd : Nat.blt d n = true) (hr : Pure w0 n ρ H o v) (k : WL w0 n ops Q rest ((d, v) :: ρ) H) : WL w0 n ops Q (o :: rest) ρ H := WL.pure_ hon ho hd hr k

/-- A bool in a slot, both ways. -/
theorem WL.split (s : Nat) {l : List Oper} {c : Bool} (hc : Env.find ρ s = some (.bool c)) (ht : c = true → WL w0 n ops Q l ((s, .bool true) :: ρ) H) (hf : c = false → WL w0 n ops Q l ((s, .bool false) :: ρ) H) : WL w0 n ops Q l ρ H := fun a w hfit hs => by
  have key : ∀ b, c = b → Fits n ((s, .bool b) :: ρ) a := fun b e => ⟨hfit.defers, hfit.size, fun i v hi => by
    unfold Env.find at hi
    cases hq : Nat.beq s i with
    | true =>
      rw [hq] at hi
      simp at hi
      subst hi
      rw [← Nat.eq_of_beq_eq_true hq]
      exact e ▸ hfit.at_ s _ hc
    | false => rw [hq] at hi; exact hfit.at_ i v hi⟩
  cases hcb : c with
  | true => exact ht hcb a w (key true hcb) hs
  | false => exact hf hcb a w (key false hcb) hs

/-- What is known of a slot, in other words. -/
theorem WL.is (s : Nat) {l : List Oper} {v v' : Value} (hc : Env.find ρ s = some v) (e : v = v') (k : WL w0 n ops Q l ((s, v') :: ρ) H) : WL w0 n ops Q l ρ H := fun a w hfit hs => by
  subst e
  refine k a w (hfit.sub (Env.sub_cons hc fun _ _ h => h)) hs

theorem WL.mem {l : List Oper} (s : List Nat) (hs : selOk H s = true) (k : WL w0 n ops Q l ρ (sel H s)) : WL w0 n ops Q l ρ H := fun a w hf h => k a w hf (h.sel s hs)

/-! ### Pure operations -/
variable {d : Nat} {ty t t' : TypeId} {pos : String} {af : Array Edge} {g : Option (Nat × Bool)} {x y z : Operand} {v u : Value}

theorem P.move  (hx : ev ρ x = some v) : Pure w0 n ρ H ⟨some d, .move x, ty, pos, af, g⟩ (v) :=
  fun a w hf _ => by simp [execOp, hf.eval hx]
theorem P.assign  (hx : ev ρ x = some v) : Pure w0 n ρ H ⟨some d, .assign x, ty, pos, af, g⟩ (v) :=
  fun a w hf _ => by simp [execOp, hf.eval hx]
theorem P.pickT  (hx : ev ρ x = some (.bool true)) (hy : ev ρ y = some v) : Pure w0 n ρ H ⟨some d, .pick x y z, ty, pos, af, g⟩ (v) :=
  fun a w hf _ => by simp [execOp, hf.eval hx, hf.eval hy, asBool]
theorem P.pickF  (hx : ev ρ x = some (.bool false)) (hz : ev ρ z = some v) : Pure w0 n ρ H ⟨some d, .pick x y z, ty, pos, af, g⟩ (v) :=
  fun a w hf _ => by simp [execOp, hf.eval hx, hf.eval hz, asBool]
theorem P.not_ {b : Bool}  (hx : ev ρ x = some (.bool b)) : Pure w0 n ρ H ⟨some d, .unOp .not t x, ty, pos, af, g⟩ (.bool (!b)) :=
  fun a w hf _ => by simp [execOp, hf.eval hx, Op.unary]
/-- Whole numbers compared. -/
def cmpI : BinOp → Int → Int → Option Bool
  | .eql, a, b => some (a == b)
  | .neq, a, b => some (a != b)
  | .lss, a, b => some (decide (a < b))
  | .leq, a, b => some (decide (a ≤ b))
  | .gtr, a, b => some (decide (b < a))
  | .geq, a, b => some (decide (b ≤ a))
  | _, _, _ => none
theorem P.cmp {op : BinOp} {i : IntKind} {p q : Int} {b : Bool}  (hx : ev ρ x = some (.int i p)) (hy : ev ρ y = some (.int i q)) (hc : cmpI op p q = some b)
    : Pure w0 n ρ H ⟨some d, .binOp op t x y t', ty, pos, af, g⟩ (.bool b) :=
  fun a w hf _ => by
    cases op <;> simp [cmpI] at hc <;> subst hc <;> simp [execOp, hf.eval hx, hf.eval hy, eqGuard, binOp, Op.intCmp]
/-- Sums, differences, products, with a wrap. -/
def ariI : BinOp → Int → Int → Option Int
  | .add, a, b => some (a + b)
  | .sub, a, b => some (a - b)
  | .mul, a, b => some (a * b)
  | _, _, _ => none
theorem P.ari {op : BinOp} {i : IntKind} {p q r : Int}  (hx : ev ρ x = some (.int i p)) (hy : ev ρ y = some (.int i q)) (hc : ariI op p q = some r)
    : Pure w0 n ρ H ⟨some d, .binOp op t x y t', ty, pos, af, g⟩ (.int i (i.wrap r)) :=
  fun a w hf _ => by
    cases op <;> simp [ariI] at hc <;> subst hc <;> simp [execOp, hf.eval hx, hf.eval hy, eqGuard, binOp, Op.intArith]
theorem wrap_in {p : Int} (h : -9223372036854775808 ≤ p ∧ p ≤ 9223372036854775807) : IntKind.i64.wrap p = p := IntWalk.i64_in p h
theorem P.ari64 {op : BinOp} {p q r : Int} (hx : ev ρ x = some (.int .i64 p)) (hy : ev ρ y = some (.int .i64 q)) (hc : ariI op p q = some r)
    (hb : -9223372036854775808 ≤ r ∧ r ≤ 9223372036854775807) : Pure w0 n ρ H ⟨some d, .binOp op t x y t', ty, pos, af, g⟩ (.int .i64 r) := by
  have := P.ari (w0 := w0) (n := n) (H := H) (d := d) (ty := ty) (t := t) (t' := t') (pos := pos) (af := af) (g := g) hx hy hc
  rwa [wrap_in hb] at this
/-- Strings. -/
def cmpS : BinOp → ByteArray → ByteArray → Option Bool
  | .eql, a, b => some (a.toList == b.toList)
  | .neq, a, b => some (!(a.toList == b.toList))
  | .lss, a, b => some (Op.bytesLess a.toList b.toList)
  | _, _, _ => none
theorem P.cmps {op : BinOp} {p q : ByteArray} {b : Bool}  (hx : ev ρ x = some (.string p)) (hy : ev ρ y = some (.string q)) (hc : cmpS op p q = some b)
    : Pure w0 n ρ H ⟨some d, .binOp op t x y t', ty, pos, af, g⟩ (.bool b) :=
  fun a w hf _ => by
    have key : ∀ (op : BinOp) (b : Bool), cmpS op p q = some b → (execOp a.eval ⟨some d, .binOp op t x y t', ty, pos, af, g⟩).run Tryz.prog w = .ok (.value (.bool b)) w := by
      intro op b hc
      cases op <;> simp only [cmpS, Option.some.injEq, reduceCtorEq] at hc <;> subst hc <;> simp [execOp, hf.eval hx, hf.eval hy, eqGuard, binOp, Op.stringOp]
    exact key op b hc
theorem P.cat {p q : ByteArray}  (hx : ev ρ x = some (.string p)) (hy : ev ρ y = some (.string q)) (hb : p.size + q.size ≤ 9223372036854775807)
    : Pure w0 n ρ H ⟨some d, .binOp .add t x y t', ty, pos, af, g⟩ (.string (p ++ q)) :=
  fun a w hf _ => by
    have : ¬ (((p.size + q.size : Nat) : Int) > IntKind.i64.max) := by
      have e : IntKind.i64.max = 9223372036854775807 := rfl
      rw [e]; omega
    simp only [execOp, hf.eval hx, hf.eval hy, eqGuard, binOp, Op.stringOp, if_neg this]
    rfl
/-- Bools compared. -/
theorem P.extract {vs : Array Value} {i : Nat}  (hx : ev ρ x = some (.tuple vs)) (hi : vs[i]? = some v) : Pure w0 n ρ H ⟨some d, .extract x i, ty, pos, af, g⟩ (v) :=
  fun a w hf _ => by simp [execOp, hf.eval hx, Instr.extract, hi]
theorem P.nilCheck {ad : Addr}  (hx : ev ρ x = some (.pointer (some ad))) : Pure w0 n ρ H ⟨some d, .nilCheck x, ty, pos, af, g⟩ (.pointer (some ad)) :=
  fun a w hf _ => by simp [execOp, hf.eval hx]
theorem P.lenS {p : ByteArray} {ty1 : TypeId} (hu : Tryz.prog.underlying ty1 = some .string)  (hx : ev ρ x = some (.string p)) : Pure w0 n ρ H ⟨some d, .call ⟨.builtin .len, #[x], #[ty1]⟩, ty, pos, af, g⟩ (.int .i64 p.size) :=
  fun a w hf _ => by simp [execOp, resolve, invoke, builtin, hf.eval hx, Builtin.len_, underlying, hu, goInt]
theorem P.lenR {ty1 e : TypeId} {A : Option Addr} {m c : Nat} (hu : Tryz.prog.underlying ty1 = some (.slice e))  (hx : ev ρ x = some (.slice A m c)) : Pure w0 n ρ H ⟨some d, .call ⟨.builtin .len, #[x], #[ty1]⟩, ty, pos, af, g⟩ (.int .i64 m) :=
  fun a w hf _ => by simp [execOp, resolve, invoke, builtin, hf.eval hx, Builtin.len_, underlying, hu, goInt]
end

end Go.Proofs.YtlkkiimmangplaaGreatDoor

/- The steps on memory, and calls. -/
namespace Go.Proofs.YtlkkiimmangplaaGreatDoor
open Go.RowKit
set_option linter.unusedVariables false
set_option linter.unusedSimpArgs false

abbrev NoAgg (t : TypeId) : Prop := ∀ w : World, (isAgg t).run Tryz.prog w = .ok false w
abbrev YesAgg (t : TypeId) : Prop := ∀ w : World, (isAgg t).run Tryz.prog w = .ok true w
abbrev Sized (t : TypeId) (sz : Nat) : Prop := ∀ w : World, (sizeOf t).run Tryz.prog w = .ok sz w

theorem add0 (g o j : Nat) : (⟨g, o, none⟩ : Addr).add j = ⟨g, o + j, none⟩ := by
  unfold Addr.add
  split
  · rename_i h; subst h; rfl
  · rfl

theorem cell_blk {w : World} {g o : Nat} {t : TypeId} {cs : Array Value} (h : w.heap[g]? = some (.cells cs t (0, 0))) : w.cell? ⟨g, o, none⟩ = cs[o]? := by
  simp [World.cell?, h]
theorem frozen_blk {w : World} {g o : Nat} {t : TypeId} {cs : Array Value} (h : w.heap[g]? = some (.cells cs t (0, 0))) : w.frozen? ⟨g, o, none⟩ = false := by
  simp [World.frozen?, h]

theorem run_loadAt_cell {t : TypeId} (hag : NoAgg t) {w : World} {ad : Addr} {v : Value} (hc : w.cell? ad = some v) :
    (Instr.loadAt t (.pointer (some ad))).run Tryz.prog w = .ok v w := by
  simp [Instr.loadAt, Instr.sureAddr, loadVar, Sem.run_bind, hag w, hc]

/-- A struct's cells in the midst of a block. -/
theorem run_loadAt_agg {t t' : TypeId} {sz : Nat} (hag : YesAgg t) (hsz : Sized t sz) {w : World} {g o : Nat} {cs vs : Array Value}
    (hg : w.heap[g]? = some (.cells cs t' (0, 0))) (hv : vs.size = sz) (hc : ∀ j, j < sz → cs[o + j]? = vs[j]?) : (Instr.loadAt t (.pointer (some ⟨g, o, none⟩))).run Tryz.prog w = .ok (.agg vs) w := by
  have hl : (loadCells ⟨g, o, none⟩ vs.toList.length).run Tryz.prog w = .ok vs.toList.toArray w :=
    run_loadCells_list (P := Tryz.prog) w ⟨g, o, none⟩ vs.toList (fun j v hv' => by
      rw [add0, cell_blk hg]
      have hj : j < sz := by
        rw [← hv]
        have := (List.getElem?_eq_some_iff.1 hv').1
        simpa using this
      rw [hc j hj]
      simpa using hv')
  simp only [Array.length_toList, Array.toArray_toList, hv] at hl
  simp [Instr.loadAt, Instr.sureAddr, loadVar, Sem.run_bind, hag w, hsz w, hl]

theorem run_storeAt_cell {t : TypeId} (hsz : Sized t 1) {w : World} {g o : Nat} {t' : TypeId} {cs : Array Value} {v : Value} (h1 : v.oneCell' = true) (hg : w.heap[g]? = some (.cells cs t' (0, 0))) (ho : Nat.blt o cs.size = true) :
    (Instr.storeAt t (.pointer (some ⟨g, o, none⟩)) v).run Tryz.prog w = .ok () (w.setCell ⟨g, o, none⟩ v) := by
  have ho' : o < cs.size := by simpa [Nat.blt, Nat.succ_le_iff] using ho
  have hcell : w.cell? ⟨g, o, none⟩ = some cs[o] := by rw [cell_blk hg]; simp [ho']
  have hfr : w.frozen? ⟨g, o, none⟩ = false := frozen_blk hg
  have hvc : v.cells = #[v] := by cases v <;> first | rfl | simp [Value.oneCell'] at h1
  have hst : (store ⟨g, o, none⟩ v).run Tryz.prog w = .ok () (w.setCell ⟨g, o, none⟩ v) := by
    cases v <;> first | (simp [Value.oneCell'] at h1; done) | simp [store, Sem.run, hcell, hfr]
  simp [Instr.storeAt, Instr.sureAddr, storeVar, Sem.run_bind, hvc, hsz w, storeCells, Addr.add, hst]

theorem heap_set {w : World} {g o : Nat} {t : TypeId} {cs : Array Value} {v : Value} (hg : w.heap[g]? = some (.cells cs t (0, 0))) : (w.setCell ⟨g, o, none⟩ v).heap[g]? = some (.cells (cs.setIfInBounds o v) t (0, 0)) :=
  heap_setCell_same w g o cs t v hg

def putAt (cs : Array Value) : Nat → List Value → Array Value
  | _, [] => cs
  | o, v :: r => putAt (cs.setIfInBounds o v) (o + 1) r
theorem putAt_size (cs : Array Value) (o : Nat) (vs : List Value) : (putAt cs o vs).size = cs.size := by
  induction vs generalizing cs o with
  | nil => rfl
  | cons v r ih => simp [putAt, ih]

/-- Several cells of one block. -/
theorem run_storeCells {g : Nat} {t' : TypeId} : ∀ (vs : List Value) (o i : Nat) (w : World) (cs : Array Value), (∀ v ∈ vs, v.oneCell' = true) → w.heap[g]? = some (.cells cs t' (0, 0)) → o + i + vs.length ≤ cs.size →
    ∃ w', (storeCells ⟨g, o, none⟩ vs i).run Tryz.prog w = .ok () w' ∧ w'.heap[g]? = some (.cells (putAt cs (o + i) vs) t' (0, 0)) ∧ w'.heap.size = w.heap.size ∧ (∀ k, k ≠ g → w'.heap[k]? = w.heap[k]?) ∧ w'.os = w.os ∧ w'.tape = w.tape ∧ w'.output = w.output
  | [], o, i, w, cs, _, hg, _ => ⟨w, by simp [storeCells], hg, rfl, fun _ _ => rfl, rfl, rfl, rfl⟩
  | v :: r, o, i, w, cs, h1, hg, hl => by
    have ho : o + i < cs.size := by simp at hl; omega
    have hcell : w.cell? ⟨g, o + i, none⟩ = some cs[o + i] := by rw [cell_blk hg]; simp [ho]
    have hfr : w.frozen? ⟨g, o + i, none⟩ = false := frozen_blk hg
    have hv : v.oneCell' = true := h1 v (by simp)
    have hst : (store ⟨g, o + i, none⟩ v).run Tryz.prog w = .ok () (w.setCell ⟨g, o + i, none⟩ v) := by
      cases v <;> first | (simp [Value.oneCell'] at hv; done) | simp [store, Sem.run, hcell, hfr]
    obtain ⟨w', h2, h3, h4, h5, h6, h7, h8⟩ := run_storeCells r o (i + 1) (w.setCell ⟨g, o + i, none⟩ v) (cs.setIfInBounds (o + i) v) (fun u hu => h1 u (by simp [hu])) (heap_set hg) (by simp at hl ⊢; omega)
    refine ⟨w', ?_, h3, by rw [h4]; simp [World.setCell], fun k hk => by rw [h5 k hk]; exact Below.heap_setCell _ _ _ _ hk, h6, h7, h8⟩
    simp [storeCells, add0, Sem.run_bind, hst, h2]

theorem run_storeAt_agg {t : TypeId} {sz : Nat} (hsz : Sized t sz) {w : World} {g o : Nat} {t' : TypeId} {cs vs : Array Value} (h1 : ∀ v ∈ vs.toList, v.oneCell' = true) (hv : vs.size = sz) (hg : w.heap[g]? = some (.cells cs t' (0, 0))) (ho : o + sz ≤ cs.size) :
    ∃ w', (Instr.storeAt t (.pointer (some ⟨g, o, none⟩)) (.agg vs)).run Tryz.prog w = .ok () w' ∧ w'.heap[g]? = some (.cells (putAt cs o vs.toList) t' (0, 0)) ∧ w'.heap.size = w.heap.size ∧ (∀ k, k ≠ g → w'.heap[k]? = w.heap[k]?) ∧ w'.os = w.os ∧ w'.tape = w.tape ∧ w'.output = w.output := by
  obtain ⟨w', h2, h3, h4⟩ := run_storeCells (g := g) (t' := t') vs.toList o 0 w cs h1 hg (by simp; omega)
  refine ⟨w', ?_, h3, h4⟩
  simp [Instr.storeAt, Instr.sureAddr, storeVar, Sem.run_bind, Value.cells, hsz w, hv, h2]

section
variable {w0 : World} {n : Nat} {ops : Array Oper} {Q : Exit → Act → World → Prop} {o : Oper} {rest : List Oper} {ρ : Env} {H : List It}
variable {d : Nat} {ty t t' : TypeId} {pos : String} {af : Array Edge} {g : Option (Nat × Bool)} {x y z : Operand} {v u : Value}

/-- The address of a field. -/
theorem P.fieldAddr {b off i fo : Nat} (hfa : ∀ (b off : Nat) (w : World), (Instr.fieldAt t (.pointer (some ⟨b, off, none⟩)) i).run Tryz.prog w = .ok (.pointer (some ⟨b, off + fo, none⟩)) w)
     (hx : ev ρ x = some (.pointer (some ⟨b, off, none⟩))) : Pure w0 n ρ H ⟨some d, .fieldAddr t x i, ty, pos, af, g⟩ (.pointer (some ⟨b, off + fo, none⟩)) :=
  fun a w hf _ => by simp [execOp, hf.eval hx, hfa b off w]
/-- A read of a cell of an own block (item number j). -/
theorem P.loadO (j : Nat) {b off : Nat} {cs : Array Value} (hag : NoAgg t)  (hx : ev ρ x = some (.pointer (some ⟨b, off, none⟩))) (hj : H[j]? = some (.blk b t' cs)) (hv : cs[off]? = some v)
    : Pure w0 n ρ H ⟨some d, .load t x, ty, pos, af, g⟩ (v) :=
  fun a w hf hs => by
    have hb := (hs.ok j _ hj).2
    simp [execOp, hf.eval hx, run_loadAt_cell hag ((cell_blk hb).trans hv)]
/-- A read of a struct in an own block. -/
theorem P.loadA (j : Nat) {b off sz : Nat} {cs vs : Array Value} (hag : YesAgg t) (hsz : Sized t sz)  (hx : ev ρ x = some (.pointer (some ⟨b, off, none⟩))) (hj : H[j]? = some (.blk b t' cs))
    (hv : vs.size = sz) (hc : ∀ j, j < sz → cs[off + j]? = vs[j]?) : Pure w0 n ρ H ⟨some d, .load t x, ty, pos, af, g⟩ (.agg vs) :=
  fun a w hf hs => by
    have hb := (hs.ok j _ hj).2
    simp [execOp, hf.eval hx, run_loadAt_agg hag hsz hb hv hc]
/-- The whole of an own block. -/
theorem P.loadW (j : Nat) {b sz : Nat} {cs : Array Value} (hag : YesAgg t) (hsz : Sized t sz) (hx : ev ρ x = some (.pointer (some ⟨b, 0, none⟩))) (hj : H[j]? = some (.blk b t' cs))
    (hv : cs.size = sz) : Pure w0 n ρ H ⟨some d, .load t x, ty, pos, af, g⟩ (.agg cs) :=
  P.loadA j hag hsz hx hj hv (fun i _ => by rw [Nat.zero_add])
/-- A read of a cell that was there when the call began. -/
theorem P.loadB {ad : Addr} (hag : NoAgg t)  (hx : ev ρ x = some (.pointer (some ad))) (hv : w0.cell? ad = some v)
    : Pure w0 n ρ H ⟨some d, .load t x, ty, pos, af, g⟩ (v) :=
  fun a w hf hs => by
    have hb := (hs.below.cell (World.block_lt_of_cell? w0 ad hv)).trans hv
    simp [execOp, hf.eval hx, run_loadAt_cell hag hb]
/-- A struct that was there when the call began. -/
theorem P.loadBA {b off sz : Nat} {vs : Array Value} (hag : YesAgg t) (hsz : Sized t sz)  (hx : ev ρ x = some (.pointer (some ⟨b, off, none⟩))) (hv : vs.size = sz)
    (hc : ∀ j v, vs[j]? = some v → w0.cell? ⟨b, off + j, none⟩ = some v) : Pure w0 n ρ H ⟨some d, .load t x, ty, pos, af, g⟩ (.agg vs) :=
  fun a w hf hs => by
    have hl : (loadCells ⟨b, off, none⟩ vs.toList.length).run Tryz.prog w = .ok vs.toList.toArray w :=
      run_loadCells_list (P := Tryz.prog) w ⟨b, off, none⟩ vs.toList (fun j v hv' => by
        rw [add0]
        have h1 := hc j v (by simpa using hv')
        exact (hs.below.cell (World.block_lt_of_cell? w0 _ h1)).trans h1)
    simp only [Array.length_toList, Array.toArray_toList, hv] at hl
    simp [execOp, hf.eval hx, Instr.loadAt, Instr.sureAddr, loadVar, Sem.run_bind, hag w, hsz w, hl]
/-- A store into a cell of an own block. -/
theorem WL.store (j : Nat) {b off : Nat} {cs : Array Value} (hsz : Sized t 1) (hon : onB ops ρ ⟨none, .store t x y, ty, pos, af, g⟩ = some true) (hx : ev ρ x = some (.pointer (some ⟨b, off, none⟩))) (hy : ev ρ y = some v) (h1 : v.oneCell' = true) (hj : H[j]? = some (.blk b t' cs))
    (ho : Nat.blt off cs.size = true) (k : WL w0 n ops Q rest ρ (H.set j (.blk b t' (cs.setIfInBounds off v)))) : WL w0 n ops Q (⟨none, .store t x y, ty, pos, af, g⟩ :: rest) ρ H :=
  WL.skip_ hon rfl (fun a w hf hs => by
    have hb := hs.ok j _ hj
    refine ⟨w.setCell ⟨b, off, none⟩ v, ?_, hs.swap j hj (fun k hk => .inl hk) ⟨hb.1, heap_set hb.2⟩ (hs.below.setCell (p := ⟨b, off, none⟩) hb.1 v) (fun k _ hk => Below.heap_setCell _ _ _ _ (fun e => hk (by rw [e]; rfl)))⟩
    simp [execOp, hf.eval hx, hf.eval hy, run_storeAt_cell hsz h1 hb.2 ho]) k
/-- A store of a struct. -/
theorem WL.storeA (j : Nat) {b off sz : Nat} {cs vs : Array Value} (hsz : Sized t sz) (hon : onB ops ρ ⟨none, .store t x y, ty, pos, af, g⟩ = some true) (hx : ev ρ x = some (.pointer (some ⟨b, off, none⟩))) (hy : ev ρ y = some (.agg vs)) (h1 : ∀ v ∈ vs.toList, v.oneCell' = true) (hv : vs.size = sz) (hj : H[j]? = some (.blk b t' cs))
    (ho : off + sz ≤ cs.size) (k : WL w0 n ops Q rest ρ (H.set j (.blk b t' (putAt cs off vs.toList)))) : WL w0 n ops Q (⟨none, .store t x y, ty, pos, af, g⟩ :: rest) ρ H :=
  WL.skip_ hon rfl (fun a w hf hs => by
    have hb := hs.ok j _ hj
    obtain ⟨w', h2, h3, h4, h5, h6, h7, h8⟩ := run_storeAt_agg hsz h1 hv hb.2 ho
    refine ⟨w', by simp [execOp, hf.eval hx, hf.eval hy, h2], hs.swap j hj (fun k hk => .inl hk) ⟨hb.1, h3⟩ ?_ (fun k _ hk => h5 k (fun e => hk (by rw [e]; rfl)))⟩
    refine hs.below.trans ⟨h6, h7, h8, by omega, fun k hk => h5 k (fun e => ?_)⟩
    have := hb.1
    omega) k

/-- A new variable. -/
theorem WL.box {t1 : TypeId} (hon : onB ops ρ ⟨some d, .box t1 x, ty, pos, af, g⟩ = some true) (hd : Nat.blt d n = true) (hx : ev ρ x = some v) (k : ∀ b, WL w0 n ops Q rest ((d, .pointer (some ⟨b, 0, none⟩)) :: ρ) (.blk b t1 v.cells :: H)) :
    WL w0 n ops Q (⟨some d, .box t1 x, ty, pos, af, g⟩ :: rest) ρ H :=
  WL.valx (S := fun _ => True) (v := fun b => .pointer (some ⟨b, 0, none⟩)) (H' := fun b => .blk b t1 v.cells :: H) hon rfl hd (fun a w hf hs => ⟨w.heap.size, _, trivial, by simp [execOp, hf.eval hx, Instr.box, newVar, newRow], hs.alloc t1 v.cells⟩) (fun b _ => k b)
theorem WL.alloc {t1 : TypeId} (hz : ∀ w : World, (zeroValue t1).run Tryz.prog w = .ok v w) (hon : onB ops ρ ⟨some d, .alloc t1, ty, pos, af, g⟩ = some true) (hd : Nat.blt d n = true) (k : ∀ b, WL w0 n ops Q rest ((d, .pointer (some ⟨b, 0, none⟩)) :: ρ) (.blk b t1 v.cells :: H)) :
    WL w0 n ops Q (⟨some d, .alloc t1, ty, pos, af, g⟩ :: rest) ρ H :=
  WL.valx (S := fun _ => True) (v := fun b => .pointer (some ⟨b, 0, none⟩)) (H' := fun b => .blk b t1 v.cells :: H) hon rfl hd (fun a w hf hs => ⟨w.heap.size, _, trivial, by simp [execOp, Instr.alloc, hz w, newVar, newRow], hs.alloc t1 v.cells⟩) (fun b _ => k b)

def evl (ρ : Env) : List Operand → Option (List Value)
  | [] => some []
  | x :: r => match ev ρ x, evl ρ r with
    | some v, some vs => some (v :: vs)
    | _, _ => none
theorem Fits.evals {ρ : Env} {a : Act} (h : Fits n ρ a) : ∀ {xs : List Operand} {vs : List Value}, evl ρ xs = some vs → xs.map a.eval = vs
  | [], vs, hv => by simp [evl] at hv; simp [hv]
  | x :: r, vs, hv => by
    unfold evl at hv
    cases hx : ev ρ x with
    | none => rw [hx] at hv; simp at hv
    | some v =>
      cases hr : evl ρ r with
      | none => rw [hx, hr] at hv; simp at hv
      | some us =>
        rw [hx, hr] at hv
        simp at hv
        subst hv
        simp [h.eval hx, Fits.evals h hr]

/-- A slice literal: its cells by a closed fact. -/
theorem WL.buildSlice {e : TypeId} {m : Nat} {ps : List (Nat × Operand)} {vs : List Value} {cs : Array Value} (hon : onB ops ρ ⟨some d, .buildSlice t m ps.toArray, ty, pos, af, g⟩ = some true) (hd : Nat.blt d n = true) (hx : evl ρ (ps.map (·.2)) = some vs)
    (hb : ∀ w : World, (Instr.buildSlice t m ((ps.map (·.1)).zip vs).toArray).run Tryz.prog w = .ok (.slice (some ⟨w.heap.size, 0, none⟩) m m) (w.alloc (.cells cs e)))
    (k : ∀ b, WL w0 n ops Q rest ((d, .slice (some ⟨b, 0, none⟩) m m) :: ρ) (.blk b e cs :: H)) : WL w0 n ops Q (⟨some d, .buildSlice t m ps.toArray, ty, pos, af, g⟩ :: rest) ρ H :=
  WL.valx (S := fun _ => True) (v := fun b => .slice (some ⟨b, 0, none⟩) m m) (H' := fun b => .blk b e cs :: H) hon rfl hd (fun a w hf hs => ⟨w.heap.size, _, trivial, by
    have hmap : (ps.toArray.map fun (i, x) => (i, a.eval x)) = ((ps.map (·.1)).zip vs).toArray := by
      rw [← hf.evals hx]
      simp only [List.map_toArray, List.map_map]
      congr 1
      induction ps with
      | nil => rfl
      | cons p r ih => simp [List.zip_map']
    simp only [execOp]
    rw [hmap]
    simp [hb w], hs.alloc e cs⟩) (fun b _ => k b)

/-- A struct literal: by a closed fact. -/
theorem P.build {ps : List (Nat × Operand)} {vs : List Value}  (hx : evl ρ (ps.map (·.2)) = some vs)
    (hb : ∀ w : World, (Instr.build t ((ps.map (·.1)).zip vs).toArray).run Tryz.prog w = .ok v w)
    : Pure w0 n ρ H ⟨some d, .build t ps.toArray, ty, pos, af, g⟩ (v) :=
  fun a w hf hs => by
    have hmap : (ps.toArray.map fun (i, x) => (i, a.eval x)) = ((ps.map (·.1)).zip vs).toArray := by
      rw [← hf.evals hx]
      simp only [List.map_toArray, List.map_map]
      congr 1
      induction ps with
      | nil => rfl
      | cons p r ih => simp [List.zip_map']
    simp only [execOp]
    rw [hmap]
    simp [hb w]
/-- The address of an element of a slice. -/
theorem P.elemAddr {e b off m c sz : Nat} {i : Int} (hu : Tryz.prog.underlying t = some (.slice e)) (hsz : Sized e sz)  (hx : ev ρ x = some (.slice (some ⟨b, off, none⟩) m c)) (hy : ev ρ y = some (.int .i64 i))
    (h0 : 0 ≤ i) (h1 : i < m) : Pure w0 n ρ H ⟨some d, .indexAddr t x y, ty, pos, af, g⟩ (.pointer (some ⟨b, off + i.toNat * sz, none⟩)) :=
  fun a w hf hs => by
    simp [execOp, hf.eval hx, hf.eval hy, Instr.indexAt, asIntOf, underlying, hu, h0, h1, hsz w, add0]
/-- A byte of a string. -/
theorem P.byte {s : ByteArray} {i : Int} (hu : Tryz.prog.underlying t = some .string)  (hx : ev ρ x = some (.string s)) (hy : ev ρ y = some (.int .i64 i))
    (h0 : 0 ≤ i) (h1 : i < s.size) : Pure w0 n ρ H ⟨some d, .index t x y, ty, pos, af, g⟩ (.int .u8 ((s.data.toList[i.toNat]?.getD 0).toNat : Int)) :=
  fun a w hf hs => by
    have h2 : i.toNat < s.size := by omega
    have h3 : s[i.toNat]? = some (s[i.toNat]'h2) := by simp [h2]
    have h4 : s.data.toList[i.toNat]?.getD 0 = s[i.toNat]'h2 := by
      have : i.toNat < s.data.toList.length := by simpa using h2
      rw [List.getElem?_eq_getElem this]
      simp [Array.getElem_toList]
      rfl
    rw [h4]
    simp [execOp, hf.eval hx, hf.eval hy, Instr.index, asIntOf, underlying, hu, h0, h3]
end
end Go.Proofs.YtlkkiimmangplaaGreatDoor

/- Calls, and the rules for code: sequences, tests, blocks, loops, the function's begin and end. -/
namespace Go.Proofs.YtlkkiimmangplaaGreatDoor
open Go.RowKit
set_option linter.unusedVariables false
set_option linter.unusedSimpArgs false

def Ent (f : FuncId) : Prop := ∀ (args : Array Value) (w : World), (callFunc f args).run Tryz.prog w = .ok (.enter f args) w
theorem ent_of {f : FuncId} {fn : Func} {c : Code} (hf : Tryz.prog.funcs[f]? = some fn) (hname : (fn.name == "runtime.NumGoroutine") = false) (hb : fn.body = some c) : Ent f := by
  intro args w
  have h1 : fn.name ≠ "runtime.NumGoroutine" := by simpa using hname
  simp [callFunc, hf, h1, hb, mark]

/-- What a call hands back. -/
def Ret {α : Type} (w : World) (S : α → Prop) (v : α → Value) (Hn : α → List It) : Ending → World → Prop := fun e w' => ∃ x, S x ∧ e = .returned (v x) ∧ St w (Hn x) w'
def RetV (w : World) (u : Value) : Ending → World → Prop := fun e w' => e = .returned u ∧ St w [] w'

section
variable {w0 : World} {n : Nat} {ops : Array Oper} {Q : Exit → Act → World → Prop} {rest : List Oper} {ρ : Env} {H : List It}
variable {d : Nat} {ty t : TypeId} {pos : String} {af : Array Edge} {g : Option (Nat × Bool)} {x y z : Operand}

theorem WL.callG {α : Type} {o : Oper} {f : FuncId} {xs : List Operand} {vs : List Value} {ats : Array TypeId} {cal : Operand} {cap : Array Value} {S : α → Prop} {v : α → Value} {H' : α → List It} (he : Ent f) (ho : o.op = .call ⟨.value cal, xs.toArray, ats⟩) (hdst : o.dst = some d)
    (hon : onB ops ρ o = some true) (hd : Nat.blt d n = true) (hcal : ev ρ cal = some (.func (.func f) #[] cap)) (hx : evl ρ xs = some vs)
    (hc : ∀ w, St w0 H w → Calls Tryz.prog f (vs.toArray ++ cap) w (fun e w' => ∃ x, S x ∧ e = .returned (v x) ∧ St w0 (H' x) w'))
    (k : ∀ x, S x → WL w0 n ops Q rest ((d, v x) :: ρ) (H' x)) : WL w0 n ops Q (o :: rest) ρ H :=
  WL.on hon fun a w hf hs => by
    have hmap : xs.toArray.map a.eval = vs.toArray := by rw [List.map_toArray, hf.evals hx]
    have hrun : (execOp a.eval o).run Tryz.prog w = .ok (.enter f (vs.toArray ++ cap)) w := by
      simp [execOp, ho, resolve, hf.eval hcal, hmap, Deferred.ofValue, invoke, Sem.run_bind, he (vs.toArray ++ cap) w]
    unfold Oper.wp
    rw [hrun, Oper.upon_enter, hdst]
    refine (hc w hs).mono fun e w' h => ?_
    obtain ⟨q, hS, rfl, hst⟩ := h
    exact k q hS _ _ (hf.put hd) hst

/-- A call of a known function that leaves all as it was and lays Hn. -/
theorem WL.callx {α : Type} {f : FuncId} {xs : List Operand} {vs : List Value} {ats : Array TypeId} {S : α → Prop} {v : α → Value} {Hn : α → List It} (he : Ent f)
    (hon : onB ops ρ ⟨some d, .call ⟨.value (.func f), xs.toArray, ats⟩, ty, pos, af, g⟩ = some true) (hd : Nat.blt d n = true) (hx : evl ρ xs = some vs)
    (hc : ∀ w, St w0 H w → Calls Tryz.prog f vs.toArray w (Ret w S v Hn))
    (k : ∀ x, S x → WL w0 n ops Q rest ((d, v x) :: ρ) (Hn x ++ H)) : WL w0 n ops Q (⟨some d, .call ⟨.value (.func f), xs.toArray, ats⟩, ty, pos, af, g⟩ :: rest) ρ H :=
  WL.callG (cap := #[]) (H' := fun x => Hn x ++ H) he rfl rfl hon hd rfl hx (fun w hs => by
    rw [Array.append_empty]
    exact (hc w hs).mono fun e w' ⟨q, h1, h2, h3⟩ => ⟨q, h1, h2, hs.call h3⟩) k
theorem WL.callv {u : Value} {f : FuncId} {xs : List Operand} {vs : List Value} {ats : Array TypeId} (he : Ent f)
    (hon : onB ops ρ ⟨some d, .call ⟨.value (.func f), xs.toArray, ats⟩, ty, pos, af, g⟩ = some true) (hd : Nat.blt d n = true) (hx : evl ρ xs = some vs)
    (hc : ∀ w, St w0 H w → Calls Tryz.prog f vs.toArray w (RetV w u))
    (k : WL w0 n ops Q rest ((d, u) :: ρ) H) : WL w0 n ops Q (⟨some d, .call ⟨.value (.func f), xs.toArray, ats⟩, ty, pos, af, g⟩ :: rest) ρ H :=
  WL.callG (α := Unit) (S := fun _ => True) (v := fun _ => u) (cap := #[]) (H' := fun _ => H) he rfl rfl hon hd rfl hx (fun w hs => by
    rw [Array.append_empty]
    exact (hc w hs).mono fun e w' ⟨h2, h3⟩ => ⟨(), trivial, h2, by simpa using hs.call h3⟩) (fun _ _ => k)
/-- A call of a function that changes own memory. -/
theorem WL.callm {α : Type} {f : FuncId} {xs : List Operand} {vs : List Value} {ats : Array TypeId} {S : α → Prop} {v : α → Value} {H' : α → List It} (he : Ent f)
    (hon : onB ops ρ ⟨some d, .call ⟨.value (.func f), xs.toArray, ats⟩, ty, pos, af, g⟩ = some true) (hd : Nat.blt d n = true) (hx : evl ρ xs = some vs)
    (hc : ∀ w, St w0 H w → Calls Tryz.prog f vs.toArray w (fun e w' => ∃ x, S x ∧ e = .returned (v x) ∧ St w0 (H' x) w'))
    (k : ∀ x, S x → WL w0 n ops Q rest ((d, v x) :: ρ) (H' x)) : WL w0 n ops Q (⟨some d, .call ⟨.value (.func f), xs.toArray, ats⟩, ty, pos, af, g⟩ :: rest) ρ H :=
  WL.callG (cap := #[]) he rfl rfl hon hd rfl hx (fun w hs => by rw [Array.append_empty]; exact hc w hs) k
/-- A call through a function value in a slot. -/
theorem WL.callc {u : Value} {f : FuncId} {xs : List Operand} {vs : List Value} {ats : Array TypeId} {cap : Array Value} (he : Ent f)
    (hon : onB ops ρ ⟨some d, .call ⟨.value x, xs.toArray, ats⟩, ty, pos, af, g⟩ = some true) (hd : Nat.blt d n = true) (hcal : ev ρ x = some (.func (.func f) #[] cap)) (hx : evl ρ xs = some vs)
    (hc : ∀ w, St w0 H w → Calls Tryz.prog f (vs.toArray ++ cap) w (RetV w u))
    (k : WL w0 n ops Q rest ((d, u) :: ρ) H) : WL w0 n ops Q (⟨some d, .call ⟨.value x, xs.toArray, ats⟩, ty, pos, af, g⟩ :: rest) ρ H :=
  WL.callG (α := Unit) (S := fun _ => True) (v := fun _ => u) (H' := fun _ => H) he rfl rfl hon hd hcal hx (fun w hs =>
    (hc w hs).mono fun e w' ⟨h2, h3⟩ => ⟨(), trivial, h2, by simpa using hs.call h3⟩) (fun _ _ => k)

theorem P.makeFunc {f : FuncId} {xs : List Operand} {vs : List Value}  (hx : evl ρ xs = some vs)
    : Pure w0 n ρ H ⟨some d, .makeFunc (.func f) #[] xs.toArray, ty, pos, af, g⟩ (.func (.func f) #[] vs.toArray) :=
  fun a w hf hs => by
    have hmap : xs.toArray.map a.eval = vs.toArray := by rw [List.map_toArray, hf.evals hx]
    simp [execOp, Instr.makeFunc, hmap]
/-! ### Code -/
variable {c c1 c2 : Code} {id : Nat}
theorem WC.seq (h : WC w0 n (Exit.then (c2.wp Tryz.prog Q) Q) c1 ρ H) : WC w0 n Q (.seq c1 c2) ρ H := fun a w hf hs => wp_seq (h a w hf hs)
theorem WC.region (h : WL w0 n ops Q ops.toList ρ H) : WC w0 n Q (.region id ops false) ρ H := fun a w hf hs => wp_region_list (h a w hf hs)
theorem WC.cond {b : Bool} (hc : ev ρ x = some (.bool b)) (ht : b = true → WC w0 n Q c1 ρ H) (hf : b = false → WC w0 n Q c2 ρ H) : WC w0 n Q (.cond x c1 c2) ρ H := fun a w hfit hs =>
  wp_cond_split (hfit.eval hc) (fun e => ht e a w hfit hs) (fun e => hf e a w hfit hs)
theorem WC.condT (hc : ev ρ x = some (.bool true)) (ht : WC w0 n Q c1 ρ H) : WC w0 n Q (.cond x c1 c2) ρ H := fun a w hfit hs => wp_cond_true (hfit.eval hc) (ht a w hfit hs)
theorem WC.condF (hc : ev ρ x = some (.bool false)) (hf : WC w0 n Q c2 ρ H) : WC w0 n Q (.cond x c1 c2) ρ H := fun a w hfit hs => wp_cond_false (hfit.eval hc) (hf a w hfit hs)
theorem WC.skip (h : End w0 n Q .normal ρ H) : WC w0 n Q .skip ρ H := fun a w hf hs => wp_skip (h a w hf hs)
theorem WC.exit (h : End w0 n Q (.exit id) ρ H) : WC w0 n Q (.exit id) ρ H := fun a w hf hs => wp_exit (h a w hf hs)
theorem WC.ret (h : End w0 n Q .ret ρ H) : WC w0 n Q .ret ρ H := fun a w hf hs => wp_ret (h a w hf hs)
theorem WC.block (h : WC w0 n (Exit.inBlock id Q) c ρ H) : WC w0 n Q (.block id c) ρ H := fun a w hf hs => wp_block (h a w hf hs)
theorem WC.mem (l : List Nat) (hl : selOk H l = true) (k : WC w0 n Q c ρ (sel H l)) : WC w0 n Q c ρ H := fun a w hf h => k a w hf (h.sel l hl)

theorem End.seq (h : WC w0 n Q c ρ H) : End w0 n (Exit.then (c.wp Tryz.prog Q) Q) .normal ρ H := fun a w hf hs => h a w hf hs
theorem End.thenR {K : Act → World → Prop} (h : End w0 n Q .ret ρ H) : End w0 n (Exit.then K Q) .ret ρ H := fun a w hf hs => h a w hf hs
theorem End.thenX {K : Act → World → Prop} (h : End w0 n Q (.exit id) ρ H) : End w0 n (Exit.then K Q) (.exit id) ρ H := fun a w hf hs => h a w hf hs
theorem End.blkN (h : End w0 n Q .normal ρ H) : End w0 n (Exit.inBlock id Q) .normal ρ H := fun a w hf hs => h a w hf hs
theorem End.blkR (h : End w0 n Q .ret ρ H) : End w0 n (Exit.inBlock id Q) .ret ρ H := fun a w hf hs => h a w hf hs
theorem End.blkX (h : End w0 n Q .normal ρ H) : End w0 n (Exit.inBlock id Q) (.exit id) ρ H := fun a w hf hs => by
  simp only [Exit.inBlock, if_true]
  exact h a w hf hs
/-! ### Loops and cuts -/
def At {σ : Type} (w0 : World) (n : Nat) (R : σ → Env) (M : σ → List It) (S : σ → Prop) (a : Act) (w : World) : Prop := ∃ s, S s ∧ Fits n (R s) a ∧ St w0 (M s) w
theorem End.at_ {σ : Type} {R : σ → Env} {M : σ → List It} {S : σ → Prop} (s : σ) (hS : S s) (hρ : Env.sub (R s) ρ) (l : List Nat) (hl : selOk H l = true) (hH : sel H l = M s) : End w0 n (Exit.then (At w0 n R M S) Q) .normal ρ H := fun a w hf hs =>
  ⟨s, hS, hf.sub hρ, hH ▸ hs.sel l hl⟩
theorem WC.cut {σ : Type} (R : σ → Env) (M : σ → List It) (S : σ → Prop) (h1 : WC w0 n (Exit.then (At w0 n R M S) Q) c1 ρ H) (h2 : ∀ s, S s → WC w0 n Q c2 (R s) (M s)) : WC w0 n Q (.seq c1 c2) ρ H := fun a w hf hs =>
  wp_seq (wp_mono (h1 a w hf hs) fun e a' w' hq => by
    cases e with
    | normal => obtain ⟨s, hS, hf', hs'⟩ := hq; exact h2 s hS _ _ hf' hs'
    | _ => exact hq)
def Again {σ : Type} (w0 : World) (n : Nat) (R : σ → Env) (M : σ → List It) (S : σ → Prop) (μ : σ → Nat) (s : σ) (a : Act) (w : World) : Prop := ∃ s', S s' ∧ μ s' < μ s ∧ Fits n (R s') a ∧ St w0 (M s') w
theorem End.again {σ : Type} {R : σ → Env} {M : σ → List It} {S : σ → Prop} {μ : σ → Nat} {s : σ} (s' : σ) (hS : S s') (hμ : μ s' < μ s) (hρ : Env.sub (R s') ρ) (l : List Nat) (hl : selOk H l = true) (hH : sel H l = M s') : End w0 n (Exit.then (Again w0 n R M S μ s) Q) .normal ρ H := fun a w hf hs =>
  ⟨s', hS, hμ, hf.sub hρ, hH ▸ hs.sel l hl⟩
theorem WC.loop {σ : Type} (R : σ → Env) (M : σ → List It) (S : σ → Prop) (μ : σ → Nat) (s0 : σ) (hS : S s0) (hρ : Env.sub (R s0) ρ) (l : List Nat) (hl : selOk H l = true) (hH : sel H l = M s0)
    (round : ∀ s, S s → WC w0 n (Exit.then (Again w0 n R M S μ s) Q) c (R s) (M s)) : WC w0 n Q (.loop c) ρ H := fun a w hf hs => by
  refine Go.wp_loop_ghost (fun m a w => ∃ s, S s ∧ μ s = m ∧ Fits n (R s) a ∧ St w0 (M s) w) (μ s0) ⟨s0, hS, rfl, hf.sub hρ, hH ▸ hs.sel l hl⟩ ?_
  rintro m a w ⟨s, hS, rfl, hf, hs⟩
  refine wp_mono (round s hS a w hf hs) fun e a' w' hq => ?_
  cases e with
  | normal =>
    obtain ⟨s', h1, h2, h3, h4⟩ := hq
    exact ⟨μ s', h2, s', h1, rfl, h3, h4⟩
  | _ => exact hq

/-! ### Begin and end -/
def argEnv : Nat → List Value → Env
  | _, [] => []
  | k, v :: r => (k, v) :: argEnv (k + 1) r
theorem argEnv_find : ∀ (vs : List Value) (k i : Nat) (v : Value), Env.find (argEnv k vs) i = some v → k ≤ i ∧ vs[i - k]? = some v
  | [], k, i, v, h => by simp [argEnv, Env.find] at h
  | u :: r, k, i, v, h => by
    simp only [argEnv, Env.find] at h
    cases hq : Nat.beq k i with
    | true =>
      rw [hq] at h
      simp at h
      have := Nat.eq_of_beq_eq_true hq
      subst this; subst h
      simp
    | false =>
      rw [hq] at h
      obtain ⟨h1, h2⟩ := argEnv_find r (k + 1) i v h
      refine ⟨by omega, ?_⟩
      rw [show i - k = (i - (k + 1)) + 1 by omega]
      simpa using h2

theorem enter {f : FuncId} {fn : Func} {vs : List Value} {w : World} {R : Ending → World → Prop} (hf : Tryz.prog.funcs[f]? = some fn) (hb : fn.body = some c) (hn : fn.ntmps = n) (hl : Nat.ble vs.length n = true) (h : WC w n (bodyPost Tryz.prog fn R) c (argEnv 0 vs) []) :
    Calls Tryz.prog f vs.toArray w R := by
  have hl' : vs.length ≤ n := by simpa using hl
  refine calls_of_wp hf hb (h _ w ⟨rfl, ?_, fun i v hi => ?_⟩ (St.refl w))
  · simp [hn]; omega
  · obtain ⟨_, h2⟩ := argEnv_find vs 0 i v hi
    have h3 : vs.toArray[i]? = some v := by simpa using h2
    have hlt : i < vs.toArray.size := (Array.getElem?_eq_some_iff.1 h3).1
    simp only
    rw [Array.getElem?_append_left hlt]
    exact h3

theorem run_loadVar_blk {ty t' : TypeId} {sz : Nat} (hag : YesAgg ty) (hsz : Sized ty sz) {w : World} {b : Nat} {cs : Array Value} (hb : w.heap[b]? = some (.cells cs t' (0, 0))) (hv : cs.size = sz) : (loadVar ty ⟨b, 0, none⟩).run Tryz.prog w = .ok (.agg cs) w := by
  have := run_loadAt_agg hag hsz (o := 0) (vs := cs) hb hv (fun j _ => by rw [Nat.zero_add])
  simpa [Instr.loadAt, Instr.sureAddr] using this

variable {fn : Func} {R : Ending → World → Prop}
theorem End.ret0 (hr : fn.results = #[]) (h : ∀ w, St w0 H w → R (.returned (.tuple #[])) w) : End w0 n (bodyPost Tryz.prog fn R) .ret ρ H := fun a w hf hs =>
  ⟨hf.defers, _, by simp [results, hr], h w hs⟩
theorem End.ret1 {p : Nat} {v : Value} (hr : fn.results = #[.tmp p]) (hp : Env.find ρ p = some v) (h : ∀ w, St w0 H w → R (.returned v) w) : End w0 n (bodyPost Tryz.prog fn R) .ret ρ H := fun a w hf hs =>
  ⟨hf.defers, v, by simp [results, hr, hf.at_ p v hp], h w hs⟩
theorem End.ret2 {p q : Nat} {v u : Value} (hr : fn.results = #[.tmp p, .tmp q]) (hp : Env.find ρ p = some v) (hq : Env.find ρ q = some u) (h : ∀ w, St w0 H w → R (.returned (.tuple #[v, u])) w) : End w0 n (bodyPost Tryz.prog fn R) .ret ρ H := fun a w hf hs =>
  ⟨hf.defers, .tuple #[v, u], by simp [results, hr, hf.at_ p v hp, hf.at_ q u hq], h w hs⟩
theorem End.ret3 {p q r : Nat} {v u s : Value} (hr : fn.results = #[.tmp p, .tmp q, .tmp r]) (hp : Env.find ρ p = some v) (hq : Env.find ρ q = some u) (hs' : Env.find ρ r = some s) (h : ∀ w, St w0 H w → R (.returned (.tuple #[v, u, s])) w) : End w0 n (bodyPost Tryz.prog fn R) .ret ρ H := fun a w hf hs =>
  ⟨hf.defers, .tuple #[v, u, s], by simp [results, hr, hf.at_ p v hp, hf.at_ q u hq, hf.at_ r s hs'], h w hs⟩
theorem End.retC {p b ty t' sz : Nat} {cs : Array Value} (j : Nat) (hr : fn.results = #[.cell p ty]) (hag : YesAgg ty) (hsz : Sized ty sz) (hp : Env.find ρ p = some (.pointer (some ⟨b, 0, none⟩))) (hj : H[j]? = some (.blk b t' cs)) (hv : cs.size = sz) (h : ∀ w, St w0 H w → R (.returned (.agg cs)) w) :
    End w0 n (bodyPost Tryz.prog fn R) .ret ρ H := fun a w hf hs =>
  ⟨hf.defers, .agg cs, by simp [results, hr, hf.at_ p _ hp, asAddr, run_loadVar_blk hag hsz (hs.ok j _ hj).2 hv], h w hs⟩
theorem End.retCT {p q b ty t' sz : Nat} {cs : Array Value} {u : Value} (j : Nat) (hr : fn.results = #[.cell p ty, .tmp q]) (hag : YesAgg ty) (hsz : Sized ty sz) (hp : Env.find ρ p = some (.pointer (some ⟨b, 0, none⟩))) (hj : H[j]? = some (.blk b t' cs)) (hv : cs.size = sz) (hq : Env.find ρ q = some u)
    (h : ∀ w, St w0 H w → R (.returned (.tuple #[.agg cs, u])) w) : End w0 n (bodyPost Tryz.prog fn R) .ret ρ H := fun a w hf hs =>
  ⟨hf.defers, .tuple #[.agg cs, u], by simp [results, hr, hf.at_ p _ hp, hf.at_ q _ hq, asAddr, run_loadVar_blk hag hsz (hs.ok j _ hj).2 hv], h w hs⟩
theorem End.norm (h : End w0 n (bodyPost Tryz.prog fn R) .ret ρ H) : End w0 n (bodyPost Tryz.prog fn R) .normal ρ H := fun a w hf hs => h a w hf hs
end
/-! ### A loop over the slots as they are: some of them told anew each round -/
def freshB (τ δ ρ : Env) : Bool := τ.all fun e => δ.any (fun q => Nat.beq q.1 e.1) || (Env.find ρ e.1).isNone
theorem Env.find_app {ρ τ : Env} {i : Nat} : Env.find (τ ++ ρ) i = (match Env.find τ i with | some v => some v | none => Env.find ρ i) := by
  induction τ with
  | nil => rfl
  | cons e r ih =>
    obtain ⟨k, v⟩ := e
    simp only [List.cons_append, Env.find]
    cases Nat.beq k i with
    | true => rfl
    | false => simpa using ih
theorem Env.find_mem {τ : Env} {i : Nat} {v : Value} (h : Env.find τ i = some v) : (i, v) ∈ τ := by
  induction τ with
  | nil => cases h
  | cons e r ih =>
    obtain ⟨k, u⟩ := e
    unfold Env.find at h
    cases hq : Nat.beq k i with
    | true =>
      rw [hq] at h
      simp at h
      rw [← Nat.eq_of_beq_eq_true hq, h]
      exact List.mem_cons_self
    | false => rw [hq] at h; exact List.mem_cons_of_mem _ (ih h)
theorem Env.find_none {τ : Env} {i : Nat} (h : Env.find τ i = none) : ∀ e ∈ τ, Nat.beq e.1 i = false := by
  induction τ with
  | nil => intro e he; cases he
  | cons e r ih =>
    obtain ⟨k, u⟩ := e
    unfold Env.find at h
    cases hq : Nat.beq k i with
    | true => rw [hq] at h; cases h
    | false =>
      rw [hq] at h
      intro e' he'
      rcases List.mem_cons.1 he' with rfl | he'
      · exact hq
      · exact ih h e' he'
theorem Env.sub_ext {δ ρ ρe : Env} (h1 : ρe.drop (ρe.length - ρ.length) = ρ) (hδ : Env.sub δ ρe) (hk : freshB (ρe.take (ρe.length - ρ.length)) δ ρ = true) : Env.sub (δ ++ ρ) ρe := fun i v hi => by
  rw [Env.find_app] at hi
  cases hq : Env.find δ i with
  | some u =>
    rw [hq] at hi
    simp at hi
    subst hi
    exact hδ i u hq
  | none =>
    rw [hq] at hi
    simp only at hi
    have he : ρe = ρe.take (ρe.length - ρ.length) ++ ρ := by
      conv => lhs; rw [← List.take_append_drop (ρe.length - ρ.length) ρe, h1]
    rw [he, Env.find_app]
    cases ht : Env.find (ρe.take (ρe.length - ρ.length)) i with
    | none => exact hi
    | some u =>
      exfalso
      have hm := Env.find_mem ht
      have h2 := List.all_eq_true.1 hk _ hm
      simp only [Bool.or_eq_true, List.any_eq_true] at h2
      rcases h2 with ⟨q, hq1, hq2⟩ | h2
      · have := Env.find_none hq q hq1
        rw [this] at hq2
        cases hq2
      · rw [hi] at h2
        cases h2

section
variable {w0 : World} {n : Nat} {Q : Exit → Act → World → Prop} {ρ : Env} {H : List It} {c c1 c2 : Code}
theorem WC.loopD {σ : Type} (D : σ → Env) (M : σ → List It) (S : σ → Prop) (μ : σ → Nat) (s0 : σ) (hS : S s0) (hρ : Env.sub (D s0) ρ) (l : List Nat) (hl : selOk H l = true) (hH : sel H l = M s0)
    (round : ∀ s, S s → WC w0 n (Exit.then (Again w0 n (fun s => D s ++ ρ) M S μ s) Q) c (D s ++ ρ) (M s)) : WC w0 n Q (.loop c) ρ H :=
  WC.loop (fun s => D s ++ ρ) M S μ s0 hS (fun i v hi => by
    rw [Env.find_app] at hi
    cases hq : Env.find (D s0) i with
    | some u => rw [hq] at hi; simp at hi; subst hi; exact hρ i u hq
    | none => rw [hq] at hi; exact hi) l hl hH round
theorem End.againD {σ : Type} {D : σ → Env} {ρ0 : Env} {M : σ → List It} {S : σ → Prop} {μ : σ → Nat} {s : σ} (s' : σ) (hS : S s') (hμ : μ s' < μ s) (h1 : ρ.drop (ρ.length - ρ0.length) = ρ0) (hδ : Env.sub (D s') ρ) (hk : freshB (ρ.take (ρ.length - ρ0.length)) (D s') ρ0 = true)
    (l : List Nat) (hl : selOk H l = true) (hH : sel H l = M s') : End w0 n (Exit.then (Again w0 n (fun s => D s ++ ρ0) M S μ s) Q) .normal ρ H :=
  End.again s' hS hμ (Env.sub_ext h1 hδ hk) l hl hH
/-- A cut: some slots told, all others that stood before and were not written stay. -/
theorem WC.cutD {σ : Type} (D : σ → Env) (M : σ → List It) (S : σ → Prop) (h1 : WC w0 n (Exit.then (At w0 n (fun s => D s ++ ρ) M S) Q) c1 ρ H) (h2 : ∀ s, S s → WC w0 n Q c2 (D s ++ ρ) (M s)) : WC w0 n Q (.seq c1 c2) ρ H :=
  WC.cut (fun s => D s ++ ρ) M S h1 h2
theorem End.atD {σ : Type} {D : σ → Env} {ρ0 : Env} {M : σ → List It} {S : σ → Prop} (s : σ) (hS : S s) (h1 : ρ.drop (ρ.length - ρ0.length) = ρ0) (hδ : Env.sub (D s) ρ) (hk : freshB (ρ.take (ρ.length - ρ0.length)) (D s) ρ0 = true) (l : List Nat) (hl : selOk H l = true) (hH : sel H l = M s) :
    End w0 n (Exit.then (At w0 n (fun s => D s ++ ρ0) M S) Q) .normal ρ H :=
  End.at_ s hS (Env.sub_ext h1 hδ hk) l hl hH
end
end Go.Proofs.YtlkkiimmangplaaGreatDoor

/- The entry and the description of a data set as plain structures, and how their cells read. -/
namespace Go.Proofs.YtlkkiimmangplaaGreatDoor
open Go.RowKit

/-- A description of a data set. -/
structure DS where
  id : Int
  org : Int
  format : Int
  length : Int
  block : Int
  keyAt : Int
  keyLength : Int
  interval : Int
  area : Int
  freeInterval : Int
  freeArea : Int
  base : Int
  altAt : Int
  altLength : Int
  unique : Bool
  cls : Int
  volume : ByteArray
  owner : ByteArray
  created : Int
  expires : Int
  archived : Bool
  deriving DecidableEq

def DS.cells (d : DS) : Array Value :=
  #[.int .i64 d.id, .int .i64 d.org, .int .i64 d.format, .int .i64 d.length, .int .i64 d.block, .int .i64 d.keyAt, .int .i64 d.keyLength, .int .i64 d.interval, .int .i64 d.area, .int .i64 d.freeInterval, .int .i64 d.freeArea, .int .i64 d.base, .int .i64 d.altAt, .int .i64 d.altLength, .bool d.unique, .int .i64 d.cls, .string d.volume, .string d.owner, .int .i64 d.created, .int .i64 d.expires, .bool d.archived]

/-- A grant. -/
structure Gr where
  who : ByteArray
  group : Bool
  level : Int
  deriving DecidableEq

/-- An entry. -/
structure E where
  kind : Int
  name : ByteArray
  ds : DS
  alt : List Int
  used : Int
  limit : Int
  last : Int
  empty : Bool
  owner : ByteArray
  target : ByteArray
  catalog : Int
  level : Int
  grants : List Gr
  deriving DecidableEq

/-- Its cells; the two slices are values. -/
def E.cells (e : E) (va vg : Value) : Array Value :=
  #[.int .i64 e.kind, .string e.name, .int .i64 e.ds.id, .int .i64 e.ds.org, .int .i64 e.ds.format, .int .i64 e.ds.length, .int .i64 e.ds.block, .int .i64 e.ds.keyAt, .int .i64 e.ds.keyLength, .int .i64 e.ds.interval, .int .i64 e.ds.area, .int .i64 e.ds.freeInterval, .int .i64 e.ds.freeArea, .int .i64 e.ds.base, .int .i64 e.ds.altAt, .int .i64 e.ds.altLength, .bool e.ds.unique, .int .i64 e.ds.cls, .string e.ds.volume, .string e.ds.owner, .int .i64 e.ds.created, .int .i64 e.ds.expires, .bool e.ds.archived, va, .int .i64 e.used, .int .i64 e.limit, .int .i64 e.last, .bool e.empty, .string e.owner, .string e.target, .int .i64 e.catalog, .int .i64 e.level, vg]

@[go_sem] theorem E.get0 (e : E) (va vg : Value) : (e.cells va vg)[0]? = some (.int .i64 e.kind) := rfl
@[go_sem] theorem E.get1 (e : E) (va vg : Value) : (e.cells va vg)[1]? = some (.string e.name) := rfl
@[go_sem] theorem E.get2 (e : E) (va vg : Value) : (e.cells va vg)[2]? = some (.int .i64 e.ds.id) := rfl
@[go_sem] theorem E.get3 (e : E) (va vg : Value) : (e.cells va vg)[3]? = some (.int .i64 e.ds.org) := rfl
@[go_sem] theorem E.get4 (e : E) (va vg : Value) : (e.cells va vg)[4]? = some (.int .i64 e.ds.format) := rfl
@[go_sem] theorem E.get5 (e : E) (va vg : Value) : (e.cells va vg)[5]? = some (.int .i64 e.ds.length) := rfl
@[go_sem] theorem E.get6 (e : E) (va vg : Value) : (e.cells va vg)[6]? = some (.int .i64 e.ds.block) := rfl
@[go_sem] theorem E.get7 (e : E) (va vg : Value) : (e.cells va vg)[7]? = some (.int .i64 e.ds.keyAt) := rfl
@[go_sem] theorem E.get8 (e : E) (va vg : Value) : (e.cells va vg)[8]? = some (.int .i64 e.ds.keyLength) := rfl
@[go_sem] theorem E.get9 (e : E) (va vg : Value) : (e.cells va vg)[9]? = some (.int .i64 e.ds.interval) := rfl
@[go_sem] theorem E.get10 (e : E) (va vg : Value) : (e.cells va vg)[10]? = some (.int .i64 e.ds.area) := rfl
@[go_sem] theorem E.get11 (e : E) (va vg : Value) : (e.cells va vg)[11]? = some (.int .i64 e.ds.freeInterval) := rfl
@[go_sem] theorem E.get12 (e : E) (va vg : Value) : (e.cells va vg)[12]? = some (.int .i64 e.ds.freeArea) := rfl
@[go_sem] theorem E.get13 (e : E) (va vg : Value) : (e.cells va vg)[13]? = some (.int .i64 e.ds.base) := rfl
@[go_sem] theorem E.get14 (e : E) (va vg : Value) : (e.cells va vg)[14]? = some (.int .i64 e.ds.altAt) := rfl
@[go_sem] theorem E.get15 (e : E) (va vg : Value) : (e.cells va vg)[15]? = some (.int .i64 e.ds.altLength) := rfl
@[go_sem] theorem E.get16 (e : E) (va vg : Value) : (e.cells va vg)[16]? = some (.bool e.ds.unique) := rfl
@[go_sem] theorem E.get17 (e : E) (va vg : Value) : (e.cells va vg)[17]? = some (.int .i64 e.ds.cls) := rfl
@[go_sem] theorem E.get18 (e : E) (va vg : Value) : (e.cells va vg)[18]? = some (.string e.ds.volume) := rfl
@[go_sem] theorem E.get19 (e : E) (va vg : Value) : (e.cells va vg)[19]? = some (.string e.ds.owner) := rfl
@[go_sem] theorem E.get20 (e : E) (va vg : Value) : (e.cells va vg)[20]? = some (.int .i64 e.ds.created) := rfl
@[go_sem] theorem E.get21 (e : E) (va vg : Value) : (e.cells va vg)[21]? = some (.int .i64 e.ds.expires) := rfl
@[go_sem] theorem E.get22 (e : E) (va vg : Value) : (e.cells va vg)[22]? = some (.bool e.ds.archived) := rfl
@[go_sem] theorem E.get23 (e : E) (va vg : Value) : (e.cells va vg)[23]? = some (va) := rfl
@[go_sem] theorem E.get24 (e : E) (va vg : Value) : (e.cells va vg)[24]? = some (.int .i64 e.used) := rfl
@[go_sem] theorem E.get25 (e : E) (va vg : Value) : (e.cells va vg)[25]? = some (.int .i64 e.limit) := rfl
@[go_sem] theorem E.get26 (e : E) (va vg : Value) : (e.cells va vg)[26]? = some (.int .i64 e.last) := rfl
@[go_sem] theorem E.get27 (e : E) (va vg : Value) : (e.cells va vg)[27]? = some (.bool e.empty) := rfl
@[go_sem] theorem E.get28 (e : E) (va vg : Value) : (e.cells va vg)[28]? = some (.string e.owner) := rfl
@[go_sem] theorem E.get29 (e : E) (va vg : Value) : (e.cells va vg)[29]? = some (.string e.target) := rfl
@[go_sem] theorem E.get30 (e : E) (va vg : Value) : (e.cells va vg)[30]? = some (.int .i64 e.catalog) := rfl
@[go_sem] theorem E.get31 (e : E) (va vg : Value) : (e.cells va vg)[31]? = some (.int .i64 e.level) := rfl
@[go_sem] theorem E.get32 (e : E) (va vg : Value) : (e.cells va vg)[32]? = some (vg) := rfl
@[go_sem] theorem E.size (e : E) (va vg : Value) : (e.cells va vg).size = 33 := rfl
@[go_sem] theorem E.set0 (e : E) (va vg : Value) (x : Int) : (e.cells va vg).setIfInBounds 0 (.int .i64 x) = E.cells { e with kind := x } va vg := rfl
@[go_sem] theorem E.set1 (e : E) (va vg : Value) (x : ByteArray) : (e.cells va vg).setIfInBounds 1 (.string x) = E.cells { e with name := x } va vg := rfl
@[go_sem] theorem E.set2 (e : E) (va vg : Value) (x : Int) : (e.cells va vg).setIfInBounds 2 (.int .i64 x) = E.cells { e with ds := { e.ds with id := x } } va vg := rfl
@[go_sem] theorem E.set3 (e : E) (va vg : Value) (x : Int) : (e.cells va vg).setIfInBounds 3 (.int .i64 x) = E.cells { e with ds := { e.ds with org := x } } va vg := rfl
@[go_sem] theorem E.set4 (e : E) (va vg : Value) (x : Int) : (e.cells va vg).setIfInBounds 4 (.int .i64 x) = E.cells { e with ds := { e.ds with format := x } } va vg := rfl
@[go_sem] theorem E.set5 (e : E) (va vg : Value) (x : Int) : (e.cells va vg).setIfInBounds 5 (.int .i64 x) = E.cells { e with ds := { e.ds with length := x } } va vg := rfl
@[go_sem] theorem E.set6 (e : E) (va vg : Value) (x : Int) : (e.cells va vg).setIfInBounds 6 (.int .i64 x) = E.cells { e with ds := { e.ds with block := x } } va vg := rfl
@[go_sem] theorem E.set7 (e : E) (va vg : Value) (x : Int) : (e.cells va vg).setIfInBounds 7 (.int .i64 x) = E.cells { e with ds := { e.ds with keyAt := x } } va vg := rfl
@[go_sem] theorem E.set8 (e : E) (va vg : Value) (x : Int) : (e.cells va vg).setIfInBounds 8 (.int .i64 x) = E.cells { e with ds := { e.ds with keyLength := x } } va vg := rfl
@[go_sem] theorem E.set9 (e : E) (va vg : Value) (x : Int) : (e.cells va vg).setIfInBounds 9 (.int .i64 x) = E.cells { e with ds := { e.ds with interval := x } } va vg := rfl
@[go_sem] theorem E.set10 (e : E) (va vg : Value) (x : Int) : (e.cells va vg).setIfInBounds 10 (.int .i64 x) = E.cells { e with ds := { e.ds with area := x } } va vg := rfl
@[go_sem] theorem E.set11 (e : E) (va vg : Value) (x : Int) : (e.cells va vg).setIfInBounds 11 (.int .i64 x) = E.cells { e with ds := { e.ds with freeInterval := x } } va vg := rfl
@[go_sem] theorem E.set12 (e : E) (va vg : Value) (x : Int) : (e.cells va vg).setIfInBounds 12 (.int .i64 x) = E.cells { e with ds := { e.ds with freeArea := x } } va vg := rfl
@[go_sem] theorem E.set13 (e : E) (va vg : Value) (x : Int) : (e.cells va vg).setIfInBounds 13 (.int .i64 x) = E.cells { e with ds := { e.ds with base := x } } va vg := rfl
@[go_sem] theorem E.set14 (e : E) (va vg : Value) (x : Int) : (e.cells va vg).setIfInBounds 14 (.int .i64 x) = E.cells { e with ds := { e.ds with altAt := x } } va vg := rfl
@[go_sem] theorem E.set15 (e : E) (va vg : Value) (x : Int) : (e.cells va vg).setIfInBounds 15 (.int .i64 x) = E.cells { e with ds := { e.ds with altLength := x } } va vg := rfl
@[go_sem] theorem E.set16 (e : E) (va vg : Value) (x : Bool) : (e.cells va vg).setIfInBounds 16 (.bool x) = E.cells { e with ds := { e.ds with unique := x } } va vg := rfl
@[go_sem] theorem E.set17 (e : E) (va vg : Value) (x : Int) : (e.cells va vg).setIfInBounds 17 (.int .i64 x) = E.cells { e with ds := { e.ds with cls := x } } va vg := rfl
@[go_sem] theorem E.set18 (e : E) (va vg : Value) (x : ByteArray) : (e.cells va vg).setIfInBounds 18 (.string x) = E.cells { e with ds := { e.ds with volume := x } } va vg := rfl
@[go_sem] theorem E.set19 (e : E) (va vg : Value) (x : ByteArray) : (e.cells va vg).setIfInBounds 19 (.string x) = E.cells { e with ds := { e.ds with owner := x } } va vg := rfl
@[go_sem] theorem E.set20 (e : E) (va vg : Value) (x : Int) : (e.cells va vg).setIfInBounds 20 (.int .i64 x) = E.cells { e with ds := { e.ds with created := x } } va vg := rfl
@[go_sem] theorem E.set21 (e : E) (va vg : Value) (x : Int) : (e.cells va vg).setIfInBounds 21 (.int .i64 x) = E.cells { e with ds := { e.ds with expires := x } } va vg := rfl
@[go_sem] theorem E.set22 (e : E) (va vg : Value) (x : Bool) : (e.cells va vg).setIfInBounds 22 (.bool x) = E.cells { e with ds := { e.ds with archived := x } } va vg := rfl
@[go_sem] theorem E.set23 (e : E) (va vg x : Value) : (e.cells va vg).setIfInBounds 23 x = e.cells x vg := rfl
@[go_sem] theorem E.set24 (e : E) (va vg : Value) (x : Int) : (e.cells va vg).setIfInBounds 24 (.int .i64 x) = E.cells { e with used := x } va vg := rfl
@[go_sem] theorem E.set25 (e : E) (va vg : Value) (x : Int) : (e.cells va vg).setIfInBounds 25 (.int .i64 x) = E.cells { e with limit := x } va vg := rfl
@[go_sem] theorem E.set26 (e : E) (va vg : Value) (x : Int) : (e.cells va vg).setIfInBounds 26 (.int .i64 x) = E.cells { e with last := x } va vg := rfl
@[go_sem] theorem E.set27 (e : E) (va vg : Value) (x : Bool) : (e.cells va vg).setIfInBounds 27 (.bool x) = E.cells { e with empty := x } va vg := rfl
@[go_sem] theorem E.set28 (e : E) (va vg : Value) (x : ByteArray) : (e.cells va vg).setIfInBounds 28 (.string x) = E.cells { e with owner := x } va vg := rfl
@[go_sem] theorem E.set29 (e : E) (va vg : Value) (x : ByteArray) : (e.cells va vg).setIfInBounds 29 (.string x) = E.cells { e with target := x } va vg := rfl
@[go_sem] theorem E.set30 (e : E) (va vg : Value) (x : Int) : (e.cells va vg).setIfInBounds 30 (.int .i64 x) = E.cells { e with catalog := x } va vg := rfl
@[go_sem] theorem E.set31 (e : E) (va vg : Value) (x : Int) : (e.cells va vg).setIfInBounds 31 (.int .i64 x) = E.cells { e with level := x } va vg := rfl
@[go_sem] theorem E.set32 (e : E) (va vg x : Value) : (e.cells va vg).setIfInBounds 32 x = e.cells va x := rfl

end Go.Proofs.YtlkkiimmangplaaGreatDoor

/- What is read: slices that came in; a world whose library variables are as they should be. -/
namespace Go.Proofs.YtlkkiimmangplaaGreatDoor
open Go.RowKit
set_option linter.unusedVariables false
set_option linter.unusedSimpArgs false

/-- A slice at A that reads as xs; each element has sz cells, told by enc. -/
def Sl {α : Type} (enc : α → List Value) (sz : Nat) (w : World) (A : Option Addr) (xs : List α) : Prop :=
  xs.length ≤ 140737488351232 ∧ (0 < xs.length → ∃ b off, A = some ⟨b, off, none⟩ ∧ ∀ (k : Nat) (x : α), xs[k]? = some x → ∀ (i : Nat) (u : Value), (enc x)[i]? = some u → w.cell? ⟨b, off + (k : Int).toNat * sz + i, none⟩ = some u)

section
variable {α : Type} {enc : α → List Value} {sz : Nat} {w w' : World} {A : Option Addr} {xs : List α}
theorem Sl.at_ (h : Sl enc sz w A xs) (hp : 0 < xs.length) : ∃ b off, A = some ⟨b, off, none⟩ ∧ ∀ (k : Nat) (x : α), xs[k]? = some x → ∀ (i : Nat) (u : Value), (enc x)[i]? = some u → w.cell? ⟨b, off + (k : Int).toNat * sz + i, none⟩ = some u := h.2 hp
theorem Sl.below (h : Sl enc sz w A xs) (hb : Below w.heap.size w w') : Sl enc sz w' A xs :=
  ⟨h.1, fun hp => by
    obtain ⟨b, off, e, hc⟩ := h.2 hp
    refine ⟨b, off, e, fun k x hx i u hu => ?_⟩
    have h1 := hc k x hx i u hu
    exact (hb.cell (World.block_lt_of_cell? w _ h1)).trans h1⟩
theorem Sl.st {w0 : World} {H : List It} (h : Sl enc sz w0 A xs) (hs : St w0 H w) : Sl enc sz w A xs := h.below hs.below
theorem Sl.nil (enc : α → List Value) (sz : Nat) (w : World) : Sl enc sz w none [] := ⟨by simp, fun h => absurd h (by simp)⟩
end

abbrev encI (x : Int) : List Value := [.int .i64 x]
abbrev encS (x : ByteArray) : List Value := [.string x]
def Gr.cells (g : Gr) : List Value := [.string g.who, .bool g.group, .int .i64 g.level]

theorem get_of_lt {α : Type} {xs : List α} {k : Nat} (h : k < xs.length) : ∃ x, xs[k]? = some x := ⟨xs[k], by simp [h]⟩
theorem take_snoc {α : Type} {l : List α} {k : Nat} {x : α} (h : l[k]? = some x) : l.take (k + 1) = l.take k ++ [x] := by
  rw [List.take_add_one, h]; rfl

structure Good (w : World) : Prop where
  shaped : w.ShapedOpen Tryz.prog
  tab : Lib.TabBelow Tryz.prog w.heap.size w "internal/strconv.uint64pow10" .u64 Lib.pow10Tab
theorem Good.below {w w' : World} (h : Good w) (hb : Below w.heap.size w w') : Good w' := ⟨h.shaped.keptBut (hb.frame (fun _ => False)) (fun _ h => h.elim), fun w'' h2 => h.tab w'' (hb.trans (h2.mono hb.size))⟩
theorem Good.st {w0 w : World} {H : List It} (h : Good w0) (hs : St w0 H w) : Good w := h.below hs.below

/-- An entry that came in: its two slices are read. -/
structure EntAt (w : World) (e : E) (va vg : Value) : Prop where
  alt : ∃ A c, va = .slice A e.alt.length c ∧ e.alt.length ≤ c ∧ Sl encI 1 w A e.alt
  gr : ∃ A c, vg = .slice A e.grants.length c ∧ e.grants.length ≤ c ∧ Sl Gr.cells 3 w A e.grants
theorem EntAt.below {w w' : World} {e : E} {va vg : Value} (h : EntAt w e va vg) (hb : Below w.heap.size w w') : EntAt w' e va vg := by
  obtain ⟨⟨A, c, h1, h2, h3⟩, ⟨A', c', h4, h5, h6⟩⟩ := h
  exact ⟨⟨A, c, h1, h2, h3.below hb⟩, ⟨A', c', h4, h5, h6.below hb⟩⟩
theorem EntAt.st {w0 w : World} {H : List It} {e : E} {va vg : Value} (h : EntAt w0 e va vg) (hs : St w0 H w) : EntAt w e va vg := h.below hs.below

theorem RetV.of {w : World} {H : List It} {u v : Value} {w' : World} (e : v = u) (h : St w H w') : RetV w u (.returned v) w' := ⟨by rw [e], h.sel [] rfl⟩
end Go.Proofs.YtlkkiimmangplaaGreatDoor

/- '==' of structs. -/
namespace Go.Proofs.YtlkkiimmangplaaGreatDoor
open Go.RowKit
set_option linter.unusedVariables false
set_option linter.unusedSimpArgs false

theorem toList_inj {a b : ByteArray} : a.toList = b.toList ↔ a = b := by
  rw [ByteArray.toList_eq, ByteArray.toList_eq]
  obtain ⟨⟨x⟩⟩ := a
  obtain ⟨⟨y⟩⟩ := b
  simp
theorem toList_beq {a b : ByteArray} : (a.toList == b.toList) = decide (a = b) := by
  rw [Bool.eq_iff_iff]; simp [toList_inj]

theorem part_cell {t : TypeId} (hag : NoAgg t) {cs : Array Value} {off : Nat} {v : Value} (h : cs[off]? = some v) {w : World} : (part t cs off).run Tryz.prog w = .ok v w := by
  simp [part, Sem.run_bind, hag w, h]
theorem eqf_cons {f : Field} {fs : List Field} {xs ys : Array Value} {d : Nat} {w : World} {a b : Value} {c r : Bool} (hn : f.name ≠ "_") (ha : (part f.type xs f.offset).run Tryz.prog w = .ok a w) (hb : (part f.type ys f.offset).run Tryz.prog w = .ok b w) (hc : (Op.equalIn d f.type a b).run Tryz.prog w = .ok c w)
    (hr : (Op.eqFields d xs ys fs).run Tryz.prog w = .ok r w) : (Op.eqFields d xs ys (f :: fs)).run Tryz.prog w = .ok (c && r) w := by
  simp only [Op.eqFields, hn, ne_eq, not_false_eq_true, if_true, Sem.run_bind, ha, hb, hc, Result.andThen_ok]
  cases c
  · simp
  · simpa using hr
theorem eqf_nil {xs ys : Array Value} {d : Nat} {w : World} : (Op.eqFields d xs ys []).run Tryz.prog w = .ok true w := by simp [Op.eqFields]
theorem equal_struct {t : TypeId} {fs : Array Field} {xs ys : Array Value} {b : Bool} {w : World} (hu : Tryz.prog.underlying t = some (.struct fs)) (hp : Tryz.prog.stoodInHeld t = false) (h : (Op.eqFields 9999 xs ys fs.toList).run Tryz.prog w = .ok b w) :
    (Op.equal t (.agg xs) (.agg ys)).run Tryz.prog w = .ok b w := by
  have hf : Tryz.prog.fieldsOf t = fs := by simp [Program.fieldsOf, hu]
  have := run_equalIn_struct (P := Tryz.prog) w 9999 t xs ys (by rw [hf]; exact hu) hp
  rw [hf, h] at this
  exact this

section
variable {w0 : World} {n : Nat} {ops : Array Oper} {Q : Exit → Act → World → Prop} {rest : List Oper} {ρ : Env} {H : List It}
variable {d : Nat} {ty t t' : TypeId} {pos : String} {af : Array Edge} {g : Option (Nat × Bool)} {x y : Operand}
theorem P.eqAgg {xs ys : Array Value} {b : Bool} (hgt : Tryz.prog.eqGuardType Tryz.prog.depth t = false)  (hx : ev ρ x = some (.agg xs)) (hy : ev ρ y = some (.agg ys)) (he : ∀ w, (Op.equal t (.agg xs) (.agg ys)).run Tryz.prog w = .ok b w)
    : Pure w0 n ρ H ⟨some d, .binOp .eql t x y t', ty, pos, af, g⟩ (.bool b) :=
  fun a w hf _ => by simp [execOp, hf.eval hx, hf.eval hy, eqGuard, hgt, binOp, Sem.run_bind, he w]
theorem P.neAgg {xs ys : Array Value} {b : Bool} (hgt : Tryz.prog.eqGuardType Tryz.prog.depth t = false)  (hx : ev ρ x = some (.agg xs)) (hy : ev ρ y = some (.agg ys)) (he : ∀ w, (Op.equal t (.agg xs) (.agg ys)).run Tryz.prog w = .ok b w)
    : Pure w0 n ρ H ⟨some d, .binOp .neq t x y t', ty, pos, af, g⟩ (.bool (!b)) :=
  fun a w hf _ => by simp [execOp, hf.eval hx, hf.eval hy, eqGuard, hgt, binOp, Sem.run_bind, he w]
end
theorem egt31 : Tryz.prog.eqGuardType Tryz.prog.depth 31 = false := by kernel_rfl
theorem egt51 : Tryz.prog.eqGuardType Tryz.prog.depth 51 = false := by kernel_rfl

set_option maxRecDepth 100000 in
theorem eq31 (a b : DS) (w : World) : (Op.equal 31 (.agg (DS.cells a)) (.agg (DS.cells b))).run Tryz.prog w = .ok (decide (a = b)) w := by
  have key : (Op.equal 31 (.agg (DS.cells a)) (.agg (DS.cells b))).run Tryz.prog w = .ok ((a.id == b.id) && ((a.org == b.org) && ((a.format == b.format) && ((a.length == b.length) && ((a.block == b.block) && ((a.keyAt == b.keyAt) && ((a.keyLength == b.keyLength) && ((a.interval == b.interval) && ((a.area == b.area) && ((a.freeInterval == b.freeInterval) && ((a.freeArea == b.freeArea) && ((a.base == b.base) && ((a.altAt == b.altAt) && ((a.altLength == b.altLength) && ((a.unique == b.unique) && ((a.cls == b.cls) && ((a.volume.toList == b.volume.toList) && ((a.owner.toList == b.owner.toList) && ((a.created == b.created) && ((a.expires == b.expires) && ((a.archived == b.archived) && true))))))))))))))))))))) w := by
    refine equal_struct Tryz.underlying31 (by kernel_rfl) ?_
    refine eqf_cons (by decide) (part_cell Tryz.isAgg3 rfl) (part_cell Tryz.isAgg3 rfl) (run_equalIn_int w _ 3 _ _ _ _ Tryz.underlying3) ?_
    refine eqf_cons (by decide) (part_cell Tryz.isAgg3 rfl) (part_cell Tryz.isAgg3 rfl) (run_equalIn_int w _ 3 _ _ _ _ Tryz.underlying3) ?_
    refine eqf_cons (by decide) (part_cell Tryz.isAgg3 rfl) (part_cell Tryz.isAgg3 rfl) (run_equalIn_int w _ 3 _ _ _ _ Tryz.underlying3) ?_
    refine eqf_cons (by decide) (part_cell Tryz.isAgg3 rfl) (part_cell Tryz.isAgg3 rfl) (run_equalIn_int w _ 3 _ _ _ _ Tryz.underlying3) ?_
    refine eqf_cons (by decide) (part_cell Tryz.isAgg3 rfl) (part_cell Tryz.isAgg3 rfl) (run_equalIn_int w _ 3 _ _ _ _ Tryz.underlying3) ?_
    refine eqf_cons (by decide) (part_cell Tryz.isAgg3 rfl) (part_cell Tryz.isAgg3 rfl) (run_equalIn_int w _ 3 _ _ _ _ Tryz.underlying3) ?_
    refine eqf_cons (by decide) (part_cell Tryz.isAgg3 rfl) (part_cell Tryz.isAgg3 rfl) (run_equalIn_int w _ 3 _ _ _ _ Tryz.underlying3) ?_
    refine eqf_cons (by decide) (part_cell Tryz.isAgg3 rfl) (part_cell Tryz.isAgg3 rfl) (run_equalIn_int w _ 3 _ _ _ _ Tryz.underlying3) ?_
    refine eqf_cons (by decide) (part_cell Tryz.isAgg3 rfl) (part_cell Tryz.isAgg3 rfl) (run_equalIn_int w _ 3 _ _ _ _ Tryz.underlying3) ?_
    refine eqf_cons (by decide) (part_cell Tryz.isAgg3 rfl) (part_cell Tryz.isAgg3 rfl) (run_equalIn_int w _ 3 _ _ _ _ Tryz.underlying3) ?_
    refine eqf_cons (by decide) (part_cell Tryz.isAgg3 rfl) (part_cell Tryz.isAgg3 rfl) (run_equalIn_int w _ 3 _ _ _ _ Tryz.underlying3) ?_
    refine eqf_cons (by decide) (part_cell Tryz.isAgg3 rfl) (part_cell Tryz.isAgg3 rfl) (run_equalIn_int w _ 3 _ _ _ _ Tryz.underlying3) ?_
    refine eqf_cons (by decide) (part_cell Tryz.isAgg3 rfl) (part_cell Tryz.isAgg3 rfl) (run_equalIn_int w _ 3 _ _ _ _ Tryz.underlying3) ?_
    refine eqf_cons (by decide) (part_cell Tryz.isAgg3 rfl) (part_cell Tryz.isAgg3 rfl) (run_equalIn_int w _ 3 _ _ _ _ Tryz.underlying3) ?_
    refine eqf_cons (by decide) (part_cell Tryz.isAgg4 rfl) (part_cell Tryz.isAgg4 rfl) (run_equalIn_bool' w _ 4  _ _ Tryz.underlying4) ?_
    refine eqf_cons (by decide) (part_cell Tryz.isAgg3 rfl) (part_cell Tryz.isAgg3 rfl) (run_equalIn_int w _ 3 _ _ _ _ Tryz.underlying3) ?_
    refine eqf_cons (by decide) (part_cell Tryz.isAgg9 rfl) (part_cell Tryz.isAgg9 rfl) (run_equalIn_string w _ 9  _ _ Tryz.underlying9) ?_
    refine eqf_cons (by decide) (part_cell Tryz.isAgg9 rfl) (part_cell Tryz.isAgg9 rfl) (run_equalIn_string w _ 9  _ _ Tryz.underlying9) ?_
    refine eqf_cons (by decide) (part_cell Tryz.isAgg3 rfl) (part_cell Tryz.isAgg3 rfl) (run_equalIn_int w _ 3 _ _ _ _ Tryz.underlying3) ?_
    refine eqf_cons (by decide) (part_cell Tryz.isAgg3 rfl) (part_cell Tryz.isAgg3 rfl) (run_equalIn_int w _ 3 _ _ _ _ Tryz.underlying3) ?_
    refine eqf_cons (by decide) (part_cell Tryz.isAgg4 rfl) (part_cell Tryz.isAgg4 rfl) (run_equalIn_bool' w _ 4  _ _ Tryz.underlying4) ?_
    exact eqf_nil
  rw [key]
  congr 1
  obtain ⟨a0, a1, a2, a3, a4, a5, a6, a7, a8, a9, a10, a11, a12, a13, a14, a15, a16, a17, a18, a19, a20⟩ := a
  obtain ⟨b0, b1, b2, b3, b4, b5, b6, b7, b8, b9, b10, b11, b12, b13, b14, b15, b16, b17, b18, b19, b20⟩ := b
  rw [Bool.eq_iff_iff]
  simp only [DS.mk.injEq, Bool.and_eq_true, beq_iff_eq, decide_eq_true_eq, toList_inj, and_true]

set_option maxRecDepth 100000 in
theorem eq51 (a b : Gr) (w : World) : (Op.equal 51 (.agg (Gr.cells a).toArray) (.agg (Gr.cells b).toArray)).run Tryz.prog w = .ok (decide (a = b)) w := by
  have key : (Op.equal 51 (.agg (Gr.cells a).toArray) (.agg (Gr.cells b).toArray)).run Tryz.prog w = .ok ((a.who.toList == b.who.toList) && ((a.group == b.group) && ((a.level == b.level) && true))) w := by
    refine equal_struct Tryz.underlying51 (by kernel_rfl) ?_
    refine eqf_cons (by decide) (part_cell Tryz.isAgg9 rfl) (part_cell Tryz.isAgg9 rfl) (run_equalIn_string w _ 9  _ _ Tryz.underlying9) ?_
    refine eqf_cons (by decide) (part_cell Tryz.isAgg4 rfl) (part_cell Tryz.isAgg4 rfl) (run_equalIn_bool' w _ 4  _ _ Tryz.underlying4) ?_
    refine eqf_cons (by decide) (part_cell Tryz.isAgg3 rfl) (part_cell Tryz.isAgg3 rfl) (run_equalIn_int w _ 3 _ _ _ _ Tryz.underlying3) ?_
    exact eqf_nil
  rw [key]
  congr 1
  obtain ⟨a0, a1, a2⟩ := a
  obtain ⟨b0, b1, b2⟩ := b
  rw [Bool.eq_iff_iff]
  simp only [Gr.mk.injEq, Bool.and_eq_true, beq_iff_eq, decide_eq_true_eq, toList_inj, and_true]
end Go.Proofs.YtlkkiimmangplaaGreatDoor

/- A region that draws its order and whose operations only read, or call what leaves all as it was: walked in the order of the text. -/
namespace Go.Proofs.YtlkkiimmangplaaGreatDoor
open Go.RowKit
set_option linter.unusedVariables false
set_option linter.unusedSimpArgs false

def WQ (w0 : World) (n : Nat) (ops : Array Oper) (Q : Exit → Act → World → Prop) (l : List Oper) (ρ : Env) (H : List It) : Prop :=
  ∀ a, Fits n ρ a → wpQuiet Tryz.prog ops (St w0 H) (fun a' => ∀ w', St w0 H w' → Q .normal a' w') l a

theorem mixed : Tryz.prog.follows .mixedOrders = true := by kernel_rfl

section
variable {w0 : World} {n : Nat} {ops : Array Oper} {Q : Exit → Act → World → Prop} {o : Oper} {rest : List Oper} {ρ : Env} {H : List It} {id : Nat}
theorem WC.quiet (hB : Region.lexB .any ops = true) (h : WQ w0 n ops Q ops.toList ρ H) : WC w0 n Q (.region id ops true) ρ H := fun a w hf hs =>
  wp_region_quiet (C := St w0 H) mixed hB hs.drew (h a hf)
theorem WQ.nil_ (h : End w0 n Q .normal ρ H) : WQ w0 n ops Q [] ρ H := fun a hf => wpQuiet_nil (fun w' hs => h a w' hf hs)
theorem WQ.off (hon : onB ops ρ o = some false) (hd : dlt o.dst n = true) (k : WQ w0 n ops Q rest (dput o.dst undef ρ) H) : WQ w0 n ops Q (o :: rest) ρ H := fun a hf => by
  unfold wpQuiet
  rw [if_neg (by rw [wanted_of hf hon]; simp)]
  exact k _ (hf.dput hd)
theorem WQ.p {d : Nat} {v : Value} (hon : onB ops ρ o = some true) (ho : o.dst = some d) (hd : Nat.blt d n = true) (hr : Pure w0 n ρ H o v) (k : WQ w0 n ops Q rest ((d, v) :: ρ) H) : WQ w0 n ops Q (o :: rest) ρ H := fun a hf => by
  unfold wpQuiet
  rw [if_pos (wanted_of hf hon)]
  refine ⟨v, fun w hs => ?_, ?_⟩
  · unfold Oper.quietAt
    rw [hr a w hf hs]
    exact ⟨rfl, rfl⟩
  · rw [ho]
    exact k _ (hf.put hd)
theorem WQ.split (s : Nat) {l : List Oper} {c : Bool} (hc : Env.find ρ s = some (.bool c)) (ht : c = true → WQ w0 n ops Q l ((s, .bool true) :: ρ) H) (hf : c = false → WQ w0 n ops Q l ((s, .bool false) :: ρ) H) : WQ w0 n ops Q l ρ H := fun a hfit => by
  cases hcb : c with
  | true => exact ht hcb a (hfit.sub (Env.sub_cons (hcb ▸ hc) fun _ _ h => h))
  | false => exact hf hcb a (hfit.sub (Env.sub_cons (hcb ▸ hc) fun _ _ h => h))
theorem WQ.is (s : Nat) {l : List Oper} {v v' : Value} (hc : Env.find ρ s = some v) (e : v = v') (k : WQ w0 n ops Q l ((s, v') :: ρ) H) : WQ w0 n ops Q l ρ H := fun a hfit => by
  subst e
  exact k a (hfit.sub (Env.sub_cons hc fun _ _ h => h))
theorem WQ.callG {d : Nat} {u : Value} {f : FuncId} {xs : List Operand} {vs : List Value} {ats : Array TypeId} {cal : Operand} {cap : Array Value} (he : Ent f) (ho : o.op = .call ⟨.value cal, xs.toArray, ats⟩) (hdst : o.dst = some d)
    (hon : onB ops ρ o = some true) (hd : Nat.blt d n = true) (hcal : ev ρ cal = some (.func (.func f) #[] cap)) (hx : evl ρ xs = some vs)
    (hc : ∀ w, St w0 H w → Calls Tryz.prog f (vs.toArray ++ cap) w (RetV w u)) (k : WQ w0 n ops Q rest ((d, u) :: ρ) H) : WQ w0 n ops Q (o :: rest) ρ H := fun a hf => by
  have hmap : xs.toArray.map a.eval = vs.toArray := by rw [List.map_toArray, hf.evals hx]
  have hrun : ∀ w, (execOp a.eval o).run Tryz.prog w = .ok (.enter f (vs.toArray ++ cap)) w := fun w => by
    simp [execOp, ho, resolve, hf.eval hcal, hmap, Deferred.ofValue, invoke, Sem.run_bind, he (vs.toArray ++ cap) w]
  unfold wpQuiet
  rw [if_pos (wanted_of hf hon)]
  refine ⟨u, fun w hs => ?_, ?_⟩
  · unfold Oper.quietAt
    rw [hrun w]
    exact ⟨rfl, (hc w hs).mono fun e w' ⟨h1, h2⟩ => ⟨h1, by simpa using hs.call h2⟩⟩
  · rw [hdst]
    exact k _ (hf.put hd)
variable {d : Nat} {ty t : TypeId} {pos : String} {af : Array Edge} {g : Option (Nat × Bool)} {x y z : Operand}
theorem WQ.callv {u : Value} {f : FuncId} {xs : List Operand} {vs : List Value} {ats : Array TypeId} (he : Ent f)
    (hon : onB ops ρ ⟨some d, .call ⟨.value (.func f), xs.toArray, ats⟩, ty, pos, af, g⟩ = some true) (hd : Nat.blt d n = true) (hx : evl ρ xs = some vs)
    (hc : ∀ w, St w0 H w → Calls Tryz.prog f vs.toArray w (RetV w u))
    (k : WQ w0 n ops Q rest ((d, u) :: ρ) H) : WQ w0 n ops Q (⟨some d, .call ⟨.value (.func f), xs.toArray, ats⟩, ty, pos, af, g⟩ :: rest) ρ H :=
  WQ.callG (cap := #[]) he rfl rfl hon hd rfl hx (fun w hs => by rw [Array.append_empty]; exact hc w hs) k
theorem WQ.callc {u : Value} {f : FuncId} {xs : List Operand} {vs : List Value} {ats : Array TypeId} {cap : Array Value} (he : Ent f)
    (hon : onB ops ρ ⟨some d, .call ⟨.value x, xs.toArray, ats⟩, ty, pos, af, g⟩ = some true) (hd : Nat.blt d n = true) (hcal : ev ρ x = some (.func (.func f) #[] cap)) (hx : evl ρ xs = some vs)
    (hc : ∀ w, St w0 H w → Calls Tryz.prog f (vs.toArray ++ cap) w (RetV w u))
    (k : WQ w0 n ops Q rest ((d, u) :: ρ) H) : WQ w0 n ops Q (⟨some d, .call ⟨.value x, xs.toArray, ats⟩, ty, pos, af, g⟩ :: rest) ρ H :=
  WQ.callG he rfl rfl hon hd hcal hx hc k
end
end Go.Proofs.YtlkkiimmangplaaGreatDoor

/- A region that draws its order: one relation over what has been done so far; each operation is shown once, whatever came before it. -/
namespace Go.Proofs.YtlkkiimmangplaaGreatDoor
open Go.RowKit
set_option linter.unusedVariables false
set_option linter.unusedSimpArgs false

def dps (o : Oper) : List Nat := (o.after.toList.filter (Region.binds .any)).map (·.on)
def acycB (ops : Array Oper) : Bool := (List.range ops.size).all fun i => match ops[i]? with | some o => (dps o).all (fun j => Nat.blt j i) | none => true
theorem acyc {ops : Array Oper} (h : acycB ops = true) {i : Nat} {o : Oper} (ho : ops[i]? = some o) {j : Nat} (hj : j ∈ dps o) : j < i := by
  have hi : i < ops.size := (Array.getElem?_eq_some_iff.1 ho).1
  have h1 := List.all_eq_true.1 h i (List.mem_range.2 hi)
  rw [ho] at h1
  have h2 := List.all_eq_true.1 h1 j hj
  simpa [Nat.blt, Nat.succ_le_iff] using h2
theorem mem_dps {o : Oper} {e : Edge} (he : e ∈ o.after) (hb : Region.binds .any e = true) : e.on ∈ dps o :=
  List.mem_map.2 ⟨e, List.mem_filter.2 ⟨by simpa using he, hb⟩, rfl⟩

def todo (m : Nat) (L : Array Bool) : Nat := (List.range m).countP fun i => !(L.getD i false)
theorem todo_set {m : Nat} {L : Array Bool} {i : Nat} (hi : i < m) (hl : L.size = m) (h : L.getD i false = false) : todo m (L.setIfInBounds i true) + 1 = todo m L := by
  unfold todo
  have key : ∀ (l : List Nat), l.Nodup → (l.countP fun j => !((L.setIfInBounds i true).getD j false)) + (if i ∈ l then 1 else 0) = l.countP fun j => !(L.getD j false) := by
    intro l hn
    induction l with
    | nil => simp
    | cons x r ih =>
      rw [List.nodup_cons] at hn
      rw [List.countP_cons, List.countP_cons]
      have ih' := ih hn.2
      by_cases hx : x = i
      · subst hx
        have h1 : (L.setIfInBounds x true).getD x false = true := by simp [hl, hi]
        rw [if_neg hn.1] at ih'
        simp only [h1, h, Bool.not_true, Bool.not_false, List.mem_cons, true_or, if_true, Bool.false_eq_true, if_false]
        omega
      · have h1 : (L.setIfInBounds i true).getD x false = L.getD x false := by simp [Array.getElem?_setIfInBounds_ne (Ne.symm hx)]
        rw [h1]
        have h2 : (i ∈ x :: r) = (i ∈ r) := by simp [Ne.symm hx]
        simp only [h2]
        omega
  have := key (List.range m) List.nodup_range
  simpa [hi] using this
theorem todo_zero {m : Nat} {L : Array Bool} (h : todo m L = 0) {i : Nat} (hi : i < m) : L.getD i false = true := by
  unfold todo at h
  rw [List.countP_eq_zero] at h
  have := h i (List.mem_range.2 hi)
  simpa using this

section
variable {ops : Array Oper} {Q : Exit → Act → World → Prop}
theorem wpAny_inv (I : Array Bool → Act → World → Prop) (hac : acycB ops = true)
    (hstep : ∀ L a w i o, L.size = ops.size → I L a w → ops[i]? = some o → L.getD i false = false → (∀ j ∈ dps o, L.getD j false = true) → ∀ K : Act → World → Prop, (∀ a' w', I (L.setIfInBounds i true) a' w' → K a' w') →
      if Region.wanted o (yielded ops a.tmps) then o.wp Tryz.prog a w K Q else K (a.put o.dst undef) w)
    (hend : ∀ L a w, I L a w → L.size = ops.size → (∀ i, i < ops.size → L.getD i false = true) → Q .normal a w) :
    ∀ (fuel : Nat) (L : Array Bool) (a : Act) (w : World), L.size = ops.size → todo ops.size L ≤ fuel → I L a w → wpAny Tryz.prog .any ops Q fuel L a w := by
  have hready : ∀ (L : Array Bool), L.size = ops.size → Region.ready .any ops L = [] → ∀ i, i < ops.size → L.getD i false = true := by
    intro L hL hr i
    induction i using Nat.strongRecOn with
    | _ i ih =>
      intro hi
      rcases hq : L.getD i false with _ | _
      · exfalso
        have hmem : i ∈ Region.ready .any ops L := by
          rw [mem_ready]
          have ho : ops[i]? = some ops[i] := by simp [hi]
          refine ⟨?_, ops[i], ho, fun e he hb => ?_⟩
          · have hlt : i < L.size := by omega
            simp only [Array.getD, hlt, dif_pos] at hq ⊢
            exact hq
          · have hlt := acyc hac ho (mem_dps he hb)
            exact ih e.on hlt (by omega)
        rw [hr] at hmem
        cases hmem
      · rfl
  intro fuel
  induction fuel with
  | zero =>
    intro L a w hL ht hI
    have hall : ∀ i, i < ops.size → L.getD i false = true := fun i hi => todo_zero (by omega) hi
    refine ⟨?_, hend L a w hI hL hall⟩
    cases hr : Region.ready .any ops L with
    | nil => rfl
    | cons i r =>
      have hmem : i ∈ Region.ready .any ops L := by rw [hr]; exact List.mem_cons_self
      rw [mem_ready] at hmem
      obtain ⟨h1, o, ho, _⟩ := hmem
      have hi : i < ops.size := (Array.getElem?_eq_some_iff.1 ho).1
      have := hall i hi
      have hlt : i < L.size := by omega
      simp only [Array.getD, hlt, dif_pos] at h1 this
      rw [h1] at this
      cases this
  | succ fuel ih =>
    intro L a w hL ht hI
    refine ⟨fun hr => hend L a w hI hL (hready L hL hr), fun i hmem => ?_⟩
    rw [mem_ready] at hmem
    obtain ⟨h1, o, ho, hd⟩ := hmem
    have hi : i < ops.size := (Array.getElem?_eq_some_iff.1 ho).1
    have hf : L.getD i false = false := by
      have hlt : i < L.size := by omega
      simp only [Array.getD, hlt, dif_pos] at h1 ⊢
      exact h1
    have hdeps : ∀ j ∈ dps o, L.getD j false = true := by
      intro j hj
      obtain ⟨e, he, rfl⟩ := List.mem_map.1 hj
      rw [List.mem_filter] at he
      exact hd e (by simpa using he.1) he.2
    have hgo := hstep L a w i o hL hI ho hf hdeps (wpAny Tryz.prog .any ops Q fuel (L.setIfInBounds i true)) (fun a' w' hI' => ih _ a' w' (by simpa using hL) (by have := todo_set hi hL hf; omega) hI')
    unfold wpOp
    simp only [ho]
    split
    · rename_i hw
      rw [if_pos hw] at hgo
      exact .inl hgo
    · rename_i hw
      rw [if_neg hw] at hgo
      exact hgo
end

/-! ### Over letters: what has been found so far -/
def up (b : Nat → Bool) (i : Nat) : Nat → Bool := fun j => bif Nat.beq j i then true else b j
/-- One operation, from whatever fits, to what T tells of its value and the world. -/
def OS (w0 : World) (n : Nat) (ops : Array Oper) (Q : Exit → Act → World → Prop) (o : Oper) (ρ : Env) (H : List It) (T : Value → World → Prop) : Prop :=
  ∀ a w, Fits n ρ a → St w0 H w → ∀ K : Act → World → Prop, (∀ v w', T v w' → K (a.put o.dst v) w') → if Region.wanted o (yielded ops a.tmps) then o.wp Tryz.prog a w K Q else K (a.put o.dst undef) w

section
variable {w0 : World} {n : Nat} {ops : Array Oper} {Q : Exit → Act → World → Prop} {o : Oper} {ρ : Env} {H : List It} {T : Value → World → Prop}
theorem OS.val (hon : onB ops ρ o = some true) (hr : ∀ a w, Fits n ρ a → St w0 H w → ∃ v w', (execOp a.eval o).run Tryz.prog w = .ok (.value v) w' ∧ T v w') : OS w0 n ops Q o ρ H T := fun a w hf hs K hK => by
  rw [if_pos (wanted_of hf hon)]
  obtain ⟨v, w', h1, h2⟩ := hr a w hf hs
  unfold Oper.wp
  rw [h1, Oper.upon_value]
  exact hK v w' h2
theorem OS.skip_ (hon : onB ops ρ o = some true) (hr : ∀ a w, Fits n ρ a → St w0 H w → ∃ w', (execOp a.eval o).run Tryz.prog w = .ok .skip w' ∧ T undef w') : OS w0 n ops Q o ρ H T := fun a w hf hs K hK => by
  rw [if_pos (wanted_of hf hon)]
  obtain ⟨w', h1, h2⟩ := hr a w hf hs
  unfold Oper.wp
  rw [h1, Oper.upon_skip]
  exact hK undef w' h2
theorem OS.off (hon : onB ops ρ o = some false) (hT : ∀ w, St w0 H w → T undef w) : OS w0 n ops Q o ρ H T := fun a w hf hs K hK => by
  rw [if_neg (by rw [wanted_of hf hon]; simp)]
  exact hK undef w (hT w hs)
theorem OS.callG {f : FuncId} {xs : List Operand} {vs : List Value} {ats : Array TypeId} {cal : Operand} {cap : Array Value} (he : Ent f) (ho : o.op = .call ⟨.value cal, xs.toArray, ats⟩) (hon : onB ops ρ o = some true) (hcal : ev ρ cal = some (.func (.func f) #[] cap)) (hx : evl ρ xs = some vs)
    (hc : ∀ w, St w0 H w → Calls Tryz.prog f (vs.toArray ++ cap) w (fun e w' => ∃ v, e = .returned v ∧ T v w')) : OS w0 n ops Q o ρ H T := fun a w hf hs K hK => by
  rw [if_pos (wanted_of hf hon)]
  have hmap : xs.toArray.map a.eval = vs.toArray := by rw [List.map_toArray, hf.evals hx]
  have hrun : (execOp a.eval o).run Tryz.prog w = .ok (.enter f (vs.toArray ++ cap)) w := by
    simp [execOp, ho, resolve, hf.eval hcal, hmap, Deferred.ofValue, invoke, Sem.run_bind, he (vs.toArray ++ cap) w]
  unfold Oper.wp
  rw [hrun, Oper.upon_enter]
  refine (hc w hs).mono fun e w' h => ?_
  obtain ⟨v, rfl, h⟩ := h
  exact hK v w' h
end

def envOf (ops : Array Oper) (val : Nat → Value) : List Nat → Env
  | [] => []
  | j :: r => match (ops[j]?).bind (·.dst) with
    | some d => (d, val j) :: envOf ops val r
    | none => envOf ops val r
def dstsOf (ops : Array Oper) : List Nat := ops.toList.filterMap (·.dst)
/-- No slot twice. -/
def dstOk (ops : Array Oper) : Bool := decide (dstsOf ops).Nodup
def cleanB (ops : Array Oper) (n : Nat) (ρ : Env) : Bool := ρ.all (fun e => !((dstsOf ops).contains e.1)) && (dstsOf ops).all (fun d => Nat.blt d n)
def clean (ops : Array Oper) (ρ : Env) : Env := ρ.filter fun e => !((dstsOf ops).contains e.1)
theorem clean_sub (ops : Array Oper) (ρ : Env) : Env.sub (clean ops ρ) ρ := by
  induction ρ with
  | nil => exact fun i v h => h
  | cons e r ih =>
    obtain ⟨k, u⟩ := e
    intro i v hi
    unfold clean at hi
    rw [List.filter_cons] at hi
    split at hi
    · unfold Env.find at hi ⊢
      cases hq : Nat.beq k i with
      | true => rw [hq] at hi; exact hi
      | false => rw [hq] at hi; exact ih i v hi
    · rename_i hk
      unfold Env.find
      cases hq : Nat.beq k i with
      | true =>
        exfalso
        have hik := Nat.eq_of_beq_eq_true hq
        subst hik
        have hm := Env.find_mem hi
        rw [List.mem_filter] at hm
        exact hk hm.2
      | false => exact ih i v hi

theorem dst_inj {ops : Array Oper} (h : dstOk ops = true) {i j : Nat} {o p : Oper} {d : Nat} (hi : ops[i]? = some o) (hj : ops[j]? = some p) (ho : o.dst = some d) (hp : p.dst = some d) : i = j := by
  have hn : (dstsOf ops).Nodup := of_decide_eq_true h
  unfold dstsOf at hn
  have hi' : ops.toList[i]? = some o := by simpa using hi
  have hj' : ops.toList[j]? = some p := by simpa using hj
  generalize ops.toList = l at hn hi' hj'
  clear hi hj h
  induction l generalizing i j with
  | nil => simp at hi'
  | cons x r ih =>
    rw [List.filterMap_cons] at hn
    cases i with
    | zero =>
      cases j with
      | zero => rfl
      | succ j =>
        simp at hi' hj'
        subst hi'
        rw [ho] at hn
        simp only [List.nodup_cons] at hn
        exact absurd (List.mem_filterMap.2 ⟨p, List.mem_of_getElem? hj', hp⟩) hn.1
    | succ i =>
      cases j with
      | zero =>
        simp at hi' hj'
        subst hj'
        rw [hp] at hn
        simp only [List.nodup_cons] at hn
        exact absurd (List.mem_filterMap.2 ⟨o, List.mem_of_getElem? hi', ho⟩) hn.1
      | succ j =>
        simp at hi' hj'
        have hn' : (List.filterMap (·.dst) r).Nodup := by
          cases hx : x.dst with
          | none => rw [hx] at hn; exact hn
          | some d' => rw [hx] at hn; simp only [List.nodup_cons] at hn; exact hn.2
        rw [ih hn' hi' hj']

def StepsOf {σ : Type} (w0 : World) (n : Nat) (ops : Array Oper) (Q : Exit → Act → World → Prop) (ρ : Env) (val : Nat → σ → Value) (Hs : (Nat → Bool) → σ → List It) (S : (Nat → Bool) → σ → Prop) : Nat → List Oper → Prop
  | _, [] => True
  | i, o :: r => (∀ b s, b i = false → (∀ j ∈ dps o, b j = true) → S b s → OS w0 n ops Q o (envOf ops (fun j => val j s) (dps o) ++ ρ) (Hs b s)
      (fun v w' => ∃ s', v = val i s' ∧ S (up b i) s' ∧ (∀ j, b j = true → val j s' = val j s) ∧ St w0 (Hs (up b i) s') w')) ∧ StepsOf w0 n ops Q ρ val Hs S (i + 1) r

section
variable {w0 : World} {n : Nat} {ops : Array Oper} {Q : Exit → Act → World → Prop} {ρ : Env} {H : List It} {id : Nat}
theorem StepsOf.get {σ : Type} {val : Nat → σ → Value} {Hs : (Nat → Bool) → σ → List It} {S : (Nat → Bool) → σ → Prop} : ∀ {l : List Oper} {k : Nat}, StepsOf w0 n ops Q ρ val Hs S k l → ∀ {i : Nat} {o : Oper}, l[i]? = some o →
    ∀ b s, b (k + i) = false → (∀ j ∈ dps o, b j = true) → S b s → OS w0 n ops Q o (envOf ops (fun j => val j s) (dps o) ++ ρ) (Hs b s)
      (fun v w' => ∃ s', v = val (k + i) s' ∧ S (up b (k + i)) s' ∧ (∀ j, b j = true → val j s' = val j s) ∧ St w0 (Hs (up b (k + i)) s') w')
  | [], k, h, i, o, hi => by simp at hi
  | x :: r, k, h, 0, o, hi => by
    simp at hi
    subst hi
    exact h.1
  | x :: r, k, h, i + 1, o, hi => by
    have := StepsOf.get h.2 (i := i) (o := o) (by simpa using hi)
    rw [show k + 1 + i = k + (i + 1) by omega] at this
    exact this

theorem Fits.env {a : Act} {val : Nat → Value} (hf : Fits n ρ a) : ∀ (l : List Nat), (∀ j ∈ l, ∀ d, (ops[j]?).bind (·.dst) = some d → a.tmps[d]? = some (val j)) → Fits n (envOf ops val l ++ ρ) a
  | [], _ => hf
  | j :: r, h => by
    have hr := Fits.env hf r (fun i hi => h i (List.mem_cons_of_mem _ hi))
    unfold envOf
    cases hd : (ops[j]?).bind (·.dst) with
    | none => exact hr
    | some d =>
      refine ⟨hr.defers, hr.size, fun i v hi => ?_⟩
      simp only [List.cons_append] at hi
      unfold Env.find at hi
      cases hq : Nat.beq d i with
      | true =>
        rw [hq] at hi
        simp at hi
        subst hi
        rw [← Nat.eq_of_beq_eq_true hq]
        exact h j List.mem_cons_self d hd
      | false => rw [hq] at hi; exact hr.at_ i v hi

theorem WC.inv {σ : Type} (val : Nat → σ → Value) (Hs : (Nat → Bool) → σ → List It) (S : (Nat → Bool) → σ → Prop) (s0 : σ) (hac : acycB ops = true) (hdo : dstOk ops = true) (hcl : cleanB ops n (clean ops ρ) = true)
    (h0 : Hs (fun _ => false) s0 = H) (hS0 : S (fun _ => false) s0) (steps : StepsOf w0 n ops Q (clean ops ρ) val Hs S 0 ops.toList)
    (fin : ∀ s, S (fun i => Nat.blt i ops.size) s → End w0 n Q .normal (envOf ops (fun j => val j s) (List.range ops.size) ++ clean ops ρ) (Hs (fun i => Nat.blt i ops.size) s)) : WC w0 n Q (.region id ops true) ρ H := fun a w hf hs => by
  refine wp_region_any mixed ?_
  simp only [cleanB, Bool.and_eq_true, List.all_eq_true] at hcl
  have hfc := hf.sub (clean_sub ops ρ)
  refine wpAny_inv (fun L a w => ∃ s, S (fun i => L.getD i false) s ∧ Fits n (clean ops ρ) a ∧ (∀ j, L.getD j false = true → ∀ d, (ops[j]?).bind (·.dst) = some d → a.tmps[d]? = some (val j s)) ∧ St w0 (Hs (fun i => L.getD i false) s) w) hac ?_ ?_ _ _ _ _ (by simp) ?_ ?_
  · rintro L a w i o hL ⟨s, hS, hf, hv, hs⟩ ho hi hd K hK
    have hlt : i < ops.size := (Array.getElem?_eq_some_iff.1 ho).1
    have hst := steps.get (i := i) (o := o) (by simpa using ho) (fun i => L.getD i false) s (by simpa using hi) hd hS
    simp only [Nat.zero_add] at hst
    refine hst a w (Fits.env hf _ (fun j hj d hjd => hv j (hd j hj) d hjd)) hs K (fun v w' hT => hK _ _ ?_)
    obtain ⟨s', rfl, hS', hag, hs'⟩ := hT
    have hup : up (fun i => L.getD i false) i = fun j => (L.setIfInBounds i true).getD j false := by
      funext j
      unfold up
      cases hq : Nat.beq j i with
      | true =>
        have := Nat.eq_of_beq_eq_true hq
        subst this
        simp [hL, hlt]
      | false =>
        have hne : i ≠ j := fun e => by subst e; simp at hq
        simp [Array.getElem?_setIfInBounds_ne hne]
    rw [hup] at hS' hs'
    refine ⟨s', hS', ?_, ?_, hs'⟩
    · cases hod : o.dst with
      | none => exact hf.none_
      | some d =>
        have hdm : d ∈ dstsOf ops := List.mem_filterMap.2 ⟨o, by simpa using Array.mem_of_getElem? ho, hod⟩
        refine ⟨hf.defers, by simp [Act.put, hf.size], fun k u hk => ?_⟩
        have hne : d ≠ k := fun e => by
          subst e
          have hm := Env.find_mem hk
          have := hcl.1 _ hm
          simp at this
          exact this hdm
        simp only [Act.put]
        rw [Array.getElem?_setIfInBounds_ne hne]
        exact hf.at_ k u hk
    · intro j hj d hjd
      cases hoj : ops[j]? with
      | none => rw [hoj] at hjd; simp at hjd
      | some p =>
        rw [hoj] at hjd
        simp at hjd
        by_cases hji : i = j
        · subst hji
          rw [ho] at hoj
          injection hoj with e
          subst e
          have hdm : d ∈ dstsOf ops := List.mem_filterMap.2 ⟨o, by simpa using Array.mem_of_getElem? ho, hjd⟩
          have hdn := hcl.2 d hdm
          have hdn' : d < n := by simpa [Nat.blt, Nat.succ_le_iff] using hdn
          simp [hjd, Act.put, hf.size, hdn']
        · have hj' : L.getD j false = true := by
            simpa [Array.getElem?_setIfInBounds_ne hji] using hj
          have h1 := hv j hj' d (by rw [hoj]; simpa using hjd)
          rw [hag j hj']
          cases hod : o.dst with
          | none => exact h1
          | some d' =>
            have hne : d' ≠ d := fun e => by
              subst e
              exact hji (dst_inj hdo ho hoj hod hjd)
            simp only [Act.put]
            rw [Array.getElem?_setIfInBounds_ne hne]
            exact h1
  · rintro L a w ⟨s, hS, hf, hv, hs⟩ hL hall
    have hb : (fun i => L.getD i false) = fun i => Nat.blt i ops.size := by
      funext i
      rcases Nat.lt_or_ge i ops.size with h | h
      · have h1 := hall i h
        have h2 : Nat.blt i ops.size = true := by simpa [Nat.blt, Nat.succ_le_iff] using h
        rw [h2]; exact h1
      · have h2 : Nat.blt i ops.size = false := by
          cases hq : Nat.blt i ops.size with
          | false => rfl
          | true => simp [Nat.blt, Nat.succ_le_iff] at hq; omega
        have h3 : ¬ i < L.size := by omega
        rw [h2]
        simp [h3]
    rw [hb] at hS hs
    exact fin s hS a w (Fits.env hf _ (fun j hj d hjd => hv j (hall j (List.mem_range.1 hj)) d hjd)) hs
  · unfold todo
    exact Nat.le_trans (List.countP_le_length) (by simp)
  · have hb : (fun i => (Array.replicate ops.size false).getD i false) = fun _ => false := by
      funext i
      rcases Nat.lt_or_ge i ops.size with h | h
      · simp [Array.getElem?_replicate, h]
      · simp [Array.getElem?_replicate, Nat.not_lt.2 h]
    refine ⟨s0, by rw [hb]; exact hS0, hfc, fun j hj => ?_, ?_⟩
    · have h := congrFun hb j
      exact absurd (h.symm.trans hj) (by simp)
    · rw [hb, h0]
      exact hs.drew
end
end Go.Proofs.YtlkkiimmangplaaGreatDoor

/- A region that draws its order, with stores and new variables: the values as a list, found step by step. -/
namespace Go.Proofs.YtlkkiimmangplaaGreatDoor
open Go.RowKit
set_option linter.unusedVariables false
set_option linter.unusedSimpArgs false

abbrev Lt := Nat → Nat × Nat
def updl (s : Lt) (i : Nat) (x : Nat × Nat) : Lt := fun j => bif Nat.beq j i then x else s j
def nth : List (Lt → Value) → Nat → Lt → Value
  | [], _, _ => undef
  | v :: _, 0, s => v s
  | _ :: r, i + 1, s => nth r i s
def Closed (ops : Array Oper) (b : Nat → Bool) : Prop := ∀ (i : Nat) (o : Oper), ops[i]? = some o → b i = true → ∀ j ∈ dps o, b j = true
theorem Closed.up {ops : Array Oper} {b : Nat → Bool} (h : Closed ops b) {i : Nat} {o : Oper} (ho : ops[i]? = some o) (hd : ∀ j ∈ dps o, b j = true) : Closed ops (up b i) := by
  intro k p hk hb j hj
  unfold YtlkkiimmangplaaGreatDoor.up at hb ⊢
  have hbj : b j = true := by
    cases hq : Nat.beq k i with
    | true =>
      have e := Nat.eq_of_beq_eq_true hq
      subst e
      rw [ho] at hk
      injection hk with hk
      subst hk
      exact hd j hj
    | false => rw [hq] at hb; exact h k p hk hb j hj
  rw [hbj]
  cases Nat.beq j i <;> rfl
def reachB (ops : Array Oper) : Nat → Nat → Nat → Bool
  | 0, _, _ => false
  | f + 1, j, i => match ops[j]? with
    | some o => (dps o).any fun k => Nat.beq k i || reachB ops f k i
    | none => false
theorem reach_closed {ops : Array Oper} {b : Nat → Bool} (h : Closed ops b) : ∀ (f j i : Nat), reachB ops f j i = true → b j = true → b i = true
  | 0, j, i, hr, _ => by simp [reachB] at hr
  | f + 1, j, i, hr, hb => by
    unfold reachB at hr
    cases ho : ops[j]? with
    | none => rw [ho] at hr; simp at hr
    | some o =>
      rw [ho] at hr
      simp only [List.any_eq_true] at hr
      obtain ⟨k, hk, hk'⟩ := hr
      have hbk := h j o ho hb k hk
      rcases Bool.or_eq_true_iff.1 hk' with e | e
      · rw [← Nat.eq_of_beq_eq_true e]; exact hbk
      · exact reach_closed h f k i e hbk
/-- The values that do not hang on letter i. -/
def AgrL (ops : Array Oper) (vs : List (Lt → Value)) (i : Nat) : Nat → List (Lt → Value) → Prop
  | _, [] => True
  | j, v :: r => ((Nat.beq j i || reachB ops 64 j i) = true ∨ ∀ s x, v (updl s i x) = v s) ∧ AgrL ops vs i (j + 1) r
theorem AgrL.nil {ops : Array Oper} {vs : List (Lt → Value)} {i j : Nat} : AgrL ops vs i j [] := trivial
theorem AgrL.yes {ops : Array Oper} {vs r : List (Lt → Value)} {i j : Nat} {v : Lt → Value} (h : (Nat.beq j i || reachB ops 64 j i) = true) (k : AgrL ops vs i (j + 1) r) : AgrL ops vs i j (v :: r) := ⟨.inl h, k⟩
theorem AgrL.no {ops : Array Oper} {vs r : List (Lt → Value)} {i j : Nat} {v : Lt → Value} (h : ∀ s x, v (updl s i x) = v s) (k : AgrL ops vs i (j + 1) r) : AgrL ops vs i j (v :: r) := ⟨.inr h, k⟩
theorem AgrL.get {ops : Array Oper} {vs : List (Lt → Value)} {i : Nat} {b : Nat → Bool} (hc : Closed ops b) (hi : b i = false) : ∀ (l : List (Lt → Value)) (k : Nat), AgrL ops vs i k l → ∀ (j : Nat), b (k + j) = true → ∀ s x, nth l j (updl s i x) = nth l j s
  | [], k, h, j, hb, s, x => by cases j <;> rfl
  | v :: r, k, h, 0, hb, s, x => by
    rcases h.1 with e | e
    · exfalso
      have hbi : b i = true := by
        rcases Bool.or_eq_true_iff.1 e with e | e
        · rw [← Nat.eq_of_beq_eq_true e]; exact hb
        · exact reach_closed hc _ _ _ e hb
      rw [hi] at hbi; cases hbi
    · exact e s x
  | v :: r, k, h, j + 1, hb, s, x => AgrL.get hc hi r (k + 1) h.2 j (by rw [show k + 1 + j = k + (j + 1) by omega]; exact hb) s x
def AgrAll (ops : Array Oper) (vs : List (Lt → Value)) : List Nat → Prop
  | [] => True
  | i :: r => AgrL ops vs i 0 vs ∧ AgrAll ops vs r
theorem AgrAll.nil {ops : Array Oper} {vs : List (Lt → Value)} : AgrAll ops vs [] := trivial
theorem AgrAll.cons {ops : Array Oper} {vs : List (Lt → Value)} {i : Nat} {r : List Nat} (h : AgrL ops vs i 0 vs) (k : AgrAll ops vs r) : AgrAll ops vs (i :: r) := ⟨h, k⟩
theorem AgrAll.get {ops : Array Oper} {vs : List (Lt → Value)} : ∀ {l : List Nat}, AgrAll ops vs l → ∀ {i : Nat}, i ∈ l → AgrL ops vs i 0 vs
  | j :: r, h, i, hi => by
    rcases List.mem_cons.1 hi with rfl | hi
    · exact h.1
    · exact AgrAll.get h.2 hi

/-! ### Stores of a region into one block: each with a flag -/
theorem putAt_get : ∀ (vs : List Value) (cs : Array Value) (o k : Nat), (putAt cs o vs)[k]? = if o ≤ k ∧ k < o + vs.length ∧ k < cs.size then vs[k - o]? else cs[k]?
  | [], cs, o, k => by rw [if_neg (by simp; omega)]; rfl
  | v :: r, cs, o, k => by
    unfold putAt
    rw [putAt_get r]
    simp only [Array.size_setIfInBounds, List.length_cons]
    by_cases h1 : o + 1 ≤ k ∧ k < o + 1 + r.length ∧ k < cs.size
    · rw [if_pos h1, if_pos (by omega)]
      rw [show k - o = (k - (o + 1)) + 1 by omega]
      simp
    · rw [if_neg h1]
      by_cases h2 : k = o
      · subst h2
        by_cases h3 : k < cs.size
        · rw [if_pos (by omega)]; simp [h3]
        · rw [if_neg (by omega)]; simp [h3]
      · rw [if_neg (by omega), Array.getElem?_setIfInBounds_ne (by omega)]
theorem putAt_comm {cs : Array Value} {o o' : Nat} {vs vs' : List Value} (h : o + vs.length ≤ o' ∨ o' + vs'.length ≤ o) : putAt (putAt cs o vs) o' vs' = putAt (putAt cs o' vs') o vs := by
  apply Array.ext_getElem?
  intro k
  rw [putAt_get, putAt_get, putAt_get, putAt_get, putAt_size, putAt_size]
  by_cases h1 : o' ≤ k ∧ k < o' + vs'.length ∧ k < cs.size <;> by_cases h2 : o ≤ k ∧ k < o + vs.length ∧ k < cs.size
  · omega
  · rw [if_pos h1, if_neg h2, if_pos h1]
  · rw [if_neg h1, if_pos h2, if_pos h2]
  · rw [if_neg h1, if_neg h2, if_neg h2, if_neg h1]
theorem putAt_all {cs us : Array Value} (h : us.size = cs.size) : putAt cs 0 us.toList = us := by
  apply Array.ext_getElem?
  intro k
  rw [putAt_get]
  by_cases hk : k < cs.size
  · rw [if_pos (by simp [h, hk])]; simp
  · rw [if_neg (by omega)]
    simp [hk, h]
abbrev Sto := Bool × Nat × Nat × List Value
def lput : List Value → Nat → List Value → List Value
  | l, _, [] => l
  | [], _, _ :: _ => []
  | _ :: l, 0, v :: vs => v :: lput l 0 vs
  | x :: l, o + 1, v :: vs => x :: lput l o (v :: vs)
theorem lput_get : ∀ (l : List Value) (o : Nat) (vs : List Value) (k : Nat), (lput l o vs)[k]? = if o ≤ k ∧ k < o + vs.length ∧ k < l.length then vs[k - o]? else l[k]?
  | l, o, [], k => by
    rw [if_neg (by simp; omega)]
    unfold lput
    cases l <;> rfl
  | [], o, v :: r, k => by rw [if_neg (by simp)]; rfl
  | x :: l, 0, v :: r, 0 => by simp [lput]
  | x :: l, 0, v :: r, k + 1 => by
    unfold lput
    simp only [List.getElem?_cons_succ]
    rw [lput_get l 0 r k]
    simp only [List.length_cons]
    by_cases h : k < r.length ∧ k < l.length
    · rw [if_pos (by omega), if_pos (by omega)]
      simp
    · rw [if_neg (by omega), if_neg (by omega)]
  | x :: l, o + 1, v :: r, 0 => by simp [lput]
  | x :: l, o + 1, v :: r, k + 1 => by
    unfold lput
    simp only [List.getElem?_cons_succ]
    rw [lput_get l o (v :: r) k]
    simp only [List.length_cons]
    by_cases h : o ≤ k ∧ k < o + (r.length + 1) ∧ k < l.length
    · rw [if_pos h, if_pos (by omega)]
      rw [show k + 1 - (o + 1) = k - o by omega]
    · rw [if_neg h, if_neg (by omega)]
theorem lput_eq (cs : Array Value) (o : Nat) (vs : List Value) : (lput cs.toList o vs).toArray = putAt cs o vs := by
  apply Array.ext_getElem?
  intro k
  rw [putAt_get, List.getElem?_toArray, lput_get]
  simp
def layL (l : List Value) : List Sto → List Value
  | [] => l
  | (c, off, m, vs) :: r => bif c then lput (layL l r) off (vs.take m) else layL l r
def lay (cs : Array Value) (L : List Sto) : Array Value := (layL cs.toList L).toArray
theorem lay_nil (cs : Array Value) : lay cs [] = cs := by simp [lay, layL]
theorem lay_true (cs : Array Value) (off m : Nat) (vs : List Value) (r : List Sto) : lay cs ((true, off, m, vs) :: r) = putAt (lay cs r) off (vs.take m) := by
  rw [← lput_eq]; simp [lay, layL]
theorem lay_false (cs : Array Value) (off m : Nat) (vs : List Value) (r : List Sto) : lay cs ((false, off, m, vs) :: r) = lay cs r := rfl
def farB (off m : Nat) : List Sto → Bool
  | [] => true
  | (_, o, k, _) :: r => (Nat.ble (off + m) o || Nat.ble (o + k) off) && farB off m r
def layOk : List Sto → Nat → Bool
  | [], _ => false
  | (_, off, m, _) :: r, 0 => true
  | (_, off, m, _) :: r, i + 1 => layOk r i
def farAt (off m : Nat) : List Sto → Nat → Bool
  | [], _ => true
  | _ :: r, 0 => true
  | (_, o, k, _) :: r, i + 1 => (Nat.ble (off + m) o || Nat.ble (o + k) off) && farAt off m r i
theorem lay_size (cs : Array Value) : ∀ L : List Sto, (lay cs L).size = cs.size
  | [] => by rw [lay_nil]
  | (true, off, m, vs) :: r => by rw [lay_true, putAt_size, lay_size cs r]
  | (false, off, m, vs) :: r => by rw [lay_false, lay_size cs r]
theorem lay_set (cs : Array Value) {off m : Nat} {vs : List Value} : ∀ (L : List Sto) (i : Nat), L[i]? = some (false, off, m, vs) → farAt off m L i = true → lay cs (L.set i (true, off, m, vs)) = putAt (lay cs L) off (vs.take m)
  | [], i, h, _ => by simp at h
  | (c, o, k, us) :: r, 0, h, _ => by
    simp at h
    obtain ⟨rfl, rfl, rfl, rfl⟩ := h
    simp only [List.set_cons_zero]
    rw [lay_true, lay_false]
  | (c, o, k, us) :: r, i + 1, h, hf => by
    unfold farAt at hf
    rw [Bool.and_eq_true] at hf
    have ih := lay_set cs r i (by simpa using h) hf.2
    simp only [List.set_cons_succ]
    cases c with
    | false => rw [lay_false, lay_false]; exact ih
    | true =>
      rw [lay_true, lay_true, ih]
      refine putAt_comm ?_
      have hd := hf.1
      simp only [Bool.or_eq_true, Nat.ble_eq] at hd
      simp only [List.length_take]
      omega

section
variable (w0 : World) (n : Nat) (ops : Array Oper) (Q : Exit → Act → World → Prop)
/-- What one operation must show. -/
def Stp (ρ : Env) (vs : List (Lt → Value)) (Hs : (Nat → Bool) → Lt → List It) (al : List Nat) (i : Nat) (o : Oper) : Prop := ∀ (b : Nat → Bool) (s : Lt), Closed ops b → b i = false → (∀ j ∈ dps o, b j = true) →
  OS w0 n ops Q o (envOf ops (fun j => nth vs j s) (dps o) ++ ρ) (Hs b s) (fun v w' => ∃ s', (s' = s ∨ (i ∈ al ∧ ∃ x, s' = updl s i x)) ∧ v = nth vs i s' ∧ St w0 (Hs (up b i) s') w')
def Stps (ρ : Env) (vs : List (Lt → Value)) (Hs : (Nat → Bool) → Lt → List It) (al : List Nat) : Nat → List Oper → Prop
  | _, [] => True
  | i, o :: r => Stp w0 n ops Q ρ vs Hs al i o ∧ Stps ρ vs Hs al (i + 1) r
end
section
variable {w0 : World} {n : Nat} {ops : Array Oper} {Q : Exit → Act → World → Prop} {ρ : Env} {H : List It} {id : Nat} {vs : List (Lt → Value)} {Hs : (Nat → Bool) → Lt → List It} {al : List Nat} {i : Nat} {o : Oper} {r : List Oper}
theorem Stps.nil : Stps w0 n ops Q ρ vs Hs al i [] := trivial
theorem Stps.cons (h : Stp w0 n ops Q ρ vs Hs al i o) (k : Stps w0 n ops Q ρ vs Hs al (i + 1) r) : Stps w0 n ops Q ρ vs Hs al i (o :: r) := ⟨h, k⟩

theorem WC.draws {Hs : (Nat → Lt → Value) → List It → (Nat → Bool) → Lt → List It} (al : List Nat) (hac : acycB ops = true) (hdo : dstOk ops = true) (hcl : cleanB ops n (clean ops ρ) = true)
    (h0 : ∀ s, Hs (nth vs) H (fun _ => false) s = H) (steps : Stps w0 n ops Q (clean ops ρ) vs (Hs (nth vs) H) al 0 ops.toList) (agree : AgrAll ops vs al)
    (fin : ∀ s, End w0 n Q .normal (envOf ops (fun j => nth vs j s) (List.range ops.size) ++ clean ops ρ) (Hs (nth vs) H (fun i => Nat.blt i ops.size) s)) : WC w0 n Q (.region id ops true) ρ H := by
  refine WC.inv (σ := Lt) (nth vs) (Hs (nth vs) H) (fun b _ => Closed ops b) (fun _ => (0, 0)) hac hdo hcl (h0 _) (fun i o _ h => by cases h) ?_ (fun s _ => fin s)
  have key : ∀ (l : List Oper) (k : Nat), (∀ j o, l[j]? = some o → ops[k + j]? = some o) → Stps w0 n ops Q (clean ops ρ) vs (Hs (nth vs) H) al k l → StepsOf w0 n ops Q (clean ops ρ) (nth vs) (Hs (nth vs) H) (fun b _ => Closed ops b) k l := by
    intro l
    induction l with
    | nil => intro k _ _; trivial
    | cons o r ih =>
      intro k hk h
      refine ⟨fun b s hb hd hS a w hf hs K hK => h.1 b s hS hb hd a w hf hs K (fun v w' hT => hK v w' ?_), ih (k + 1) (fun j p hj => by rw [show k + 1 + j = k + (j + 1) by omega]; exact hk (j + 1) p (by simpa using hj)) h.2⟩
      obtain ⟨s', hs', hv, hst⟩ := hT
      have ho : ops[k]? = some o := hk 0 o rfl
      refine ⟨s', hv, hS.up ho hd, fun j hj => ?_, hst⟩
      rcases hs' with rfl | ⟨hi, x, rfl⟩
      · rfl
      · exact AgrL.get hS hb vs 0 (agree.get hi) j (by rw [Nat.zero_add]; exact hj) s x
  exact key ops.toList 0 (fun j o h => by rw [Nat.zero_add]; simpa using h) steps

variable {d : Nat} {ty t t' : TypeId} {pos : String} {af : Array Edge} {g : Option (Nat × Bool)} {x y z : Operand} {v u : Value}
theorem Stp.p (hr : ∀ (b : Nat → Bool) (s : Lt), (∀ j ∈ dps o, b j = true) → ∃ v, (onB ops (envOf ops (fun j => nth vs j s) (dps o) ++ ρ) o = some true ∧ Pure w0 n (envOf ops (fun j => nth vs j s) (dps o) ++ ρ) (Hs b s) o v) ∧ v = nth vs i s ∧ Hs (up b i) s = Hs b s) : Stp w0 n ops Q ρ vs Hs al i o := fun b s hcl hb hd => by
  obtain ⟨v, ⟨hon, hp⟩, hv, hH⟩ := hr b s hd
  exact OS.val hon fun a w hf hs => ⟨v, w, hp a w hf hs, s, .inl rfl, hv, by rw [hH]; exact hs⟩
/-- A store; the block may be one of this region's. -/
theorem Stp.store (j m : Nat) (hsz : Sized t 1) (hr : ∀ (b : Nat → Bool) (s : Lt), (∀ j ∈ dps ⟨none, .store t x y, ty, pos, af, g⟩, b j = true) → ∃ (c : Bool) (q off : Nat) (t' : TypeId) (cs : Array Value) (v : Value) (L : List Sto), (onB ops (envOf ops (fun j => nth vs j s) (dps ⟨none, .store t x y, ty, pos, af, g⟩) ++ ρ) ⟨none, .store t x y, ty, pos, af, g⟩ = some true) ∧
      ev (envOf ops (fun j => nth vs j s) (dps ⟨none, .store t x y, ty, pos, af, g⟩) ++ ρ) x = some (.pointer (some ⟨q, off, none⟩)) ∧ ev (envOf ops (fun j => nth vs j s) (dps ⟨none, .store t x y, ty, pos, af, g⟩) ++ ρ) y = some v ∧ v.oneCell' = true ∧
      (Hs b s)[j]? = some (bif c then .blk q t' (lay cs L) else .nil) ∧ c = true ∧ L[m]? = some (b i, off, 1, [v]) ∧ farAt off 1 L m = true ∧ Nat.blt off cs.size = true ∧ nth vs i s = undef ∧ Hs (up b i) s = (Hs b s).set j (bif c then .blk q t' (lay cs (L.set m (true, off, 1, [v]))) else .nil)) : Stp w0 n ops Q ρ vs Hs al i ⟨none, .store t x y, ty, pos, af, g⟩ := fun b s hcl hb hd => by
  obtain ⟨c, q, off, t', cs, v, L, hon, hx, hy, h1, hj, rfl, hL, hfar, ho, hu, hH⟩ := hr b s hd
  rw [hb] at hL
  rw [lay_set cs L m hL hfar] at hH
  simp only [cond_true] at hj hH
  refine OS.skip_ hon fun a w hf hs => ?_
  have hbk := hs.ok j _ hj
  refine ⟨w.setCell ⟨q, off, none⟩ v, ?_, s, .inl rfl, hu.symm, ?_⟩
  · simp [execOp, hf.eval hx, hf.eval hy, run_storeAt_cell hsz h1 hbk.2 (by rw [lay_size]; exact ho)]
  · rw [hH]
    exact hs.swap j hj (fun k hk => .inl hk) ⟨hbk.1, heap_set hbk.2⟩ (hs.below.setCell (p := ⟨q, off, none⟩) hbk.1 v) (fun k _ hk => Below.heap_setCell _ _ _ _ (fun e => hk (by rw [e]; rfl)))
theorem Stp.storeA (j m : Nat) {sz : Nat} (hsz : Sized t sz) (hr : ∀ (b : Nat → Bool) (s : Lt), (∀ j ∈ dps ⟨none, .store t x y, ty, pos, af, g⟩, b j = true) → ∃ (c : Bool) (q off : Nat) (t' : TypeId) (cs us : Array Value) (L : List Sto), (onB ops (envOf ops (fun j => nth vs j s) (dps ⟨none, .store t x y, ty, pos, af, g⟩) ++ ρ) ⟨none, .store t x y, ty, pos, af, g⟩ = some true) ∧
      ev (envOf ops (fun j => nth vs j s) (dps ⟨none, .store t x y, ty, pos, af, g⟩) ++ ρ) x = some (.pointer (some ⟨q, off, none⟩)) ∧ ev (envOf ops (fun j => nth vs j s) (dps ⟨none, .store t x y, ty, pos, af, g⟩) ++ ρ) y = some (.agg us) ∧ (us.toList.all Value.oneCell' = true) ∧ us.size = sz ∧
      (Hs b s)[j]? = some (bif c then .blk q t' (lay cs L) else .nil) ∧ c = true ∧ L[m]? = some (b i, off, sz, us.toList) ∧ farAt off sz L m = true ∧ Nat.ble (off + sz) cs.size = true ∧ nth vs i s = undef ∧ Hs (up b i) s = (Hs b s).set j (bif c then .blk q t' (lay cs (L.set m (true, off, sz, us.toList))) else .nil)) : Stp w0 n ops Q ρ vs Hs al i ⟨none, .store t x y, ty, pos, af, g⟩ := fun b s hcl hb hd => by
  obtain ⟨c, q, off, t', cs, us, L, hon, hx, hy, h1, hv, hj, rfl, hL, hfar, ho, hu, hH⟩ := hr b s hd
  rw [hb] at hL
  rw [lay_set cs L m hL hfar, List.take_of_length_le (by simp [hv])] at hH
  simp only [cond_true] at hj hH
  refine OS.skip_ hon fun a w hf hs => ?_
  have hbk := hs.ok j _ hj
  obtain ⟨w', h2, h3, h4, h5, h6, h7, h8⟩ := run_storeAt_agg hsz (List.all_eq_true.1 h1) hv hbk.2 (by rw [lay_size]; simpa using ho)
  refine ⟨w', by simp [execOp, hf.eval hx, hf.eval hy, h2], s, .inl rfl, hu.symm, ?_⟩
  rw [hH]
  refine hs.swap j hj (fun k hk => .inl hk) ⟨hbk.1, h3⟩ ?_ (fun k _ hk => h5 k (fun e => hk (by rw [e]; rfl)))
  refine hs.below.trans ⟨h6, h7, h8, by omega, fun k hk => h5 k (fun e => ?_)⟩
  have := hbk.1
  omega
/-- The whole of a block. -/
theorem Stp.storeW (j : Nat) {sz : Nat} (hsz : Sized t sz) (hr : ∀ (b : Nat → Bool) (s : Lt), (∀ j ∈ dps ⟨none, .store t x y, ty, pos, af, g⟩, b j = true) → ∃ (c : Bool) (q : Nat) (t' : TypeId) (cs us X : Array Value), (onB ops (envOf ops (fun j => nth vs j s) (dps ⟨none, .store t x y, ty, pos, af, g⟩) ++ ρ) ⟨none, .store t x y, ty, pos, af, g⟩ = some true) ∧
      ev (envOf ops (fun j => nth vs j s) (dps ⟨none, .store t x y, ty, pos, af, g⟩) ++ ρ) x = some (.pointer (some ⟨q, 0, none⟩)) ∧ ev (envOf ops (fun j => nth vs j s) (dps ⟨none, .store t x y, ty, pos, af, g⟩) ++ ρ) y = some (.agg us) ∧ (us.toList.all Value.oneCell' = true) ∧ us.size = sz ∧
      (Hs b s)[j]? = some (bif c then .blk q t' (bif b i then X else cs) else .nil) ∧ c = true ∧ cs.size = sz ∧ nth vs i s = undef ∧ Hs (up b i) s = (Hs b s).set j (bif c then .blk q t' us else .nil)) : Stp w0 n ops Q ρ vs Hs al i ⟨none, .store t x y, ty, pos, af, g⟩ := fun b s hcl hb hd => by
  obtain ⟨c, q, t', cs, us, X, hon, hx, hy, h1, hv, hj, rfl, hcs, hu, hH⟩ := hr b s hd
  rw [hb] at hj
  simp only [cond_true, cond_false] at hj hH
  refine OS.skip_ hon fun a w hf hs => ?_
  have hbk := hs.ok j _ hj
  obtain ⟨w', h2, h3, h4, h5, h6, h7, h8⟩ := run_storeAt_agg (o := 0) hsz (List.all_eq_true.1 h1) hv hbk.2 (by omega)
  rw [putAt_all (by omega)] at h3
  refine ⟨w', by simp [execOp, hf.eval hx, hf.eval hy, h2], s, .inl rfl, hu.symm, ?_⟩
  rw [hH]
  refine hs.swap j hj (fun k hk => .inl hk) ⟨hbk.1, h3⟩ ?_ (fun k _ hk => h5 k (fun e => hk (by rw [e]; rfl)))
  refine hs.below.trans ⟨h6, h7, h8, by omega, fun k hk => h5 k (fun e => ?_)⟩
  have := hbk.1
  omega
def offl (ks : List Nat) (b : Nat → Bool) : Nat → Bool := fun k => bif ks.any (fun x => Nat.beq x k) then false else b k
/-- A pure step, and stores that come behind it. -/
theorem Stp.pw (ks : List Nat) (hks : ks.all (fun k => reachB ops 64 k i) = true) (hr : ∀ (b : Nat → Bool) (s : Lt), (∀ j ∈ dps o, b j = true) → ∃ v, (onB ops (envOf ops (fun j => nth vs j s) (dps o) ++ ρ) o = some true ∧ Pure w0 n (envOf ops (fun j => nth vs j s) (dps o) ++ ρ) (Hs (offl ks b) s) o v) ∧ v = nth vs i s ∧ Hs (up b i) s = Hs b s) : Stp w0 n ops Q ρ vs Hs al i o := fun b s hcl hb hd => by
  have e : offl ks b = b := by
    funext k
    unfold offl
    cases hq : ks.any (fun x => Nat.beq x k) with
    | false => rfl
    | true =>
      obtain ⟨x, hx, hxk⟩ := List.any_eq_true.1 hq
      have := Nat.eq_of_beq_eq_true hxk
      subst this
      cases hbx : b x with
      | false => rfl
      | true =>
        have := reach_closed hcl _ _ _ (List.all_eq_true.1 hks x hx) hbx
        rw [hb] at this; cases this
  obtain ⟨v, ⟨hon, hp⟩, hv, hH⟩ := hr b s hd
  rw [e] at hp
  exact OS.val hon fun a w hf hs => ⟨v, w, hp a w hf hs, s, .inl rfl, hv, by rw [hH]; exact hs⟩
/-- A call that leaves all as it was. -/
theorem Stp.call {f : FuncId} {xs : List Operand} {ats : Array TypeId} {cal : Operand} (he : Ent f) (hr : ∀ (b : Nat → Bool) (s : Lt), (∀ j ∈ dps ⟨some d, .call ⟨.value cal, xs.toArray, ats⟩, ty, pos, af, g⟩, b j = true) → ∃ (us : List Value) (cap : Array Value) (v : Value), (onB ops (envOf ops (fun j => nth vs j s) (dps ⟨some d, .call ⟨.value cal, xs.toArray, ats⟩, ty, pos, af, g⟩) ++ ρ) ⟨some d, .call ⟨.value cal, xs.toArray, ats⟩, ty, pos, af, g⟩ = some true) ∧
      ev (envOf ops (fun j => nth vs j s) (dps ⟨some d, .call ⟨.value cal, xs.toArray, ats⟩, ty, pos, af, g⟩) ++ ρ) cal = some (.func (.func f) #[] cap) ∧ evl (envOf ops (fun j => nth vs j s) (dps ⟨some d, .call ⟨.value cal, xs.toArray, ats⟩, ty, pos, af, g⟩) ++ ρ) xs = some us ∧
      (∀ w, St w0 (Hs b s) w → Calls Tryz.prog f (us.toArray ++ cap) w (RetV w v)) ∧ v = nth vs i s ∧ Hs (up b i) s = Hs b s) : Stp w0 n ops Q ρ vs Hs al i ⟨some d, .call ⟨.value cal, xs.toArray, ats⟩, ty, pos, af, g⟩ := fun b s hcl hb hd => by
  obtain ⟨us, cap, v, hon, hcal, hx, hc, hv, hH⟩ := hr b s hd
  refine OS.callG he rfl hon hcal hx fun w hs => (hc w hs).mono fun e w' h => ?_
  obtain ⟨rfl, h2⟩ := h
  refine ⟨v, rfl, s, .inl rfl, hv, ?_⟩
  rw [hH]
  simpa using hs.call h2
theorem Stp.callv {f : FuncId} {xs : List Operand} {ats : Array TypeId} (he : Ent f) (hr : ∀ (b : Nat → Bool) (s : Lt), (∀ j ∈ dps ⟨some d, .call ⟨.value (.func f), xs.toArray, ats⟩, ty, pos, af, g⟩, b j = true) → ∃ (us : List Value) (v : Value), (onB ops (envOf ops (fun j => nth vs j s) (dps ⟨some d, .call ⟨.value (.func f), xs.toArray, ats⟩, ty, pos, af, g⟩) ++ ρ) ⟨some d, .call ⟨.value (.func f), xs.toArray, ats⟩, ty, pos, af, g⟩ = some true) ∧
      evl (envOf ops (fun j => nth vs j s) (dps ⟨some d, .call ⟨.value (.func f), xs.toArray, ats⟩, ty, pos, af, g⟩) ++ ρ) xs = some us ∧
      (∀ w, St w0 (Hs b s) w → Calls Tryz.prog f us.toArray w (RetV w v)) ∧ v = nth vs i s ∧ Hs (up b i) s = Hs b s) : Stp w0 n ops Q ρ vs Hs al i ⟨some d, .call ⟨.value (.func f), xs.toArray, ats⟩, ty, pos, af, g⟩ :=
  Stp.call he fun b s hd => by
    obtain ⟨us, v, h1, h2, h3, h4, h5⟩ := hr b s hd
    exact ⟨us, #[], v, h1, rfl, h2, fun w hs => by rw [Array.append_empty]; exact h3 w hs, h4, h5⟩
/-- A new variable. -/
theorem Stp.alloc {t1 : TypeId} (j : Nat) (hz : ∀ w : World, (zeroValue t1).run Tryz.prog w = .ok v w) (hi : al.contains i = true) (hr : ∀ (b : Nat → Bool) (s : Lt) (q : Nat), (onB ops (envOf ops (fun j => nth vs j s) (dps ⟨some d, .alloc t1, ty, pos, af, g⟩) ++ ρ) ⟨some d, .alloc t1, ty, pos, af, g⟩ = some true) ∧
      nth vs i (updl s i (q, 0)) = .pointer (some ⟨q, 0, none⟩) ∧ ∃ X, (Hs b s)[j]? = some (bif b i then X else .nil) ∧ (b i = false → Hs (up b i) (updl s i (q, 0)) = (Hs b s).set j (.blk q t1 v.cells))) : Stp w0 n ops Q ρ vs Hs al i ⟨some d, .alloc t1, ty, pos, af, g⟩ := fun b s hcl hb hd => by
  have h0 := hr b s 0
  refine OS.val h0.1 fun a w hf hs => ⟨.pointer (some ⟨w.heap.size, 0, none⟩), w.alloc (.cells v.cells t1), by simp [execOp, Instr.alloc, hz w, newVar, newRow], ?_⟩
  obtain ⟨_, h1, X, hj, h2⟩ := hr b s w.heap.size
  rw [hb] at hj
  refine ⟨_, .inr ⟨by simpa using hi, (w.heap.size, 0), rfl⟩, h1.symm, ?_⟩
  rw [h2 hb]
  have hb2 := hs.below.alloc hs.size (.cells v.cells t1)
  refine hs.swap j hj (fun k hk => .inr ?_) ⟨hs.size, heap_alloc_new w _⟩ hb2 (fun k hk _ => ?_)
  · simp [It.key] at hk; omega
  · exact ((Below.refl w.heap.size w).alloc (Nat.le_refl _) _).block k hk
/-- A call that lays one new thing. -/
theorem Stp.callx {f : FuncId} {xs : List Operand} {ats : Array TypeId} (j : Nat) (he : Ent f) (hi : al.contains i = true) (hr : ∀ (b : Nat → Bool) (s : Lt), b i = false → (∀ j ∈ dps ⟨some d, .call ⟨.value (.func f), xs.toArray, ats⟩, ty, pos, af, g⟩, b j = true) → ∃ (us : List Value) (S : Nat → Prop) (v : Nat → Value) (X : Nat → It), (onB ops (envOf ops (fun j => nth vs j s) (dps ⟨some d, .call ⟨.value (.func f), xs.toArray, ats⟩, ty, pos, af, g⟩) ++ ρ) ⟨some d, .call ⟨.value (.func f), xs.toArray, ats⟩, ty, pos, af, g⟩ = some true) ∧
      evl (envOf ops (fun j => nth vs j s) (dps ⟨some d, .call ⟨.value (.func f), xs.toArray, ats⟩, ty, pos, af, g⟩) ++ ρ) xs = some us ∧
      (∀ w, St w0 (Hs b s) w → Calls Tryz.prog f us.toArray w (Ret w S v (fun q => [X q]))) ∧ (∀ q, v q = nth vs i (updl s i (q, 0))) ∧ (∃ Y, (Hs b s)[j]? = some (bif b i then Y else .nil)) ∧ ∀ q, Hs (up b i) (updl s i (q, 0)) = (Hs b s).set j (X q)) : Stp w0 n ops Q ρ vs Hs al i ⟨some d, .call ⟨.value (.func f), xs.toArray, ats⟩, ty, pos, af, g⟩ := fun b s hcl hb hd => by
  obtain ⟨us, S, v, X, hon, hx, hc, hv, ⟨Y, hj⟩, hH⟩ := hr b s hb hd
  rw [hb] at hj
  refine OS.callG (cap := #[]) he rfl hon rfl hx fun w hs => ?_
  rw [Array.append_empty]
  refine (hc w hs).mono fun e w' h => ?_
  obtain ⟨q, _, rfl, h2⟩ := h
  refine ⟨v q, rfl, _, .inr ⟨by simpa using hi, (q, 0), rfl⟩, hv q, ?_⟩
  rw [hH q]
  have h3 : St w0 ([X q] ++ (Hs b s)) w' := hs.call h2
  refine hs.swap j hj (fun k hk => .inr (It.base (h2.ok 0 _ rfl) hk).1) (It.lower (h2.ok 0 _ rfl) hs.size) h3.below (fun k hk _ => h2.below.block k hk)
/-- Places for what is still to come. -/
theorem WC.nil1 {c : Code} (k : WC w0 n Q c ρ (.nil :: H)) : WC w0 n Q c ρ H := fun a w hf hs => k a w hf ⟨hs.below, fun i x hi => by
  cases i with
  | zero => simp at hi; subst hi; trivial
  | succ i => exact hs.ok i x (by simpa using hi), fun i j x y hx hy hij k hk => by
  cases i with
  | zero => simp at hx; subst hx; cases hk
  | succ i =>
    cases j with
    | zero => simp at hy; subst hy; intro h; cases h
    | succ j => exact hs.apart i j x y (by simpa using hx) (by simpa using hy) (by omega) k hk⟩
theorem End.shape {e : Exit} {ρ' : Env} {H' : List It} (h1 : Env.sub ρ' ρ) (h2 : H = H') (k : End w0 n Q e ρ' H') : End w0 n Q e ρ H := fun a w hf hs => k a w (hf.sub h1) (h2 ▸ hs)
end

/-- A call whose own memory is told from further above. -/
theorem enterH {c : Code} {n : Nat} {f : FuncId} {fn : Func} {vs : List Value} {w0 w : World} {H : List It} {R : Ending → World → Prop} (hf : Tryz.prog.funcs[f]? = some fn) (hb : fn.body = some c) (hn : fn.ntmps = n) (hl : Nat.ble vs.length n = true) (hst : St w0 H w) (h : WC w0 n (bodyPost Tryz.prog fn R) c (argEnv 0 vs) H) :
    Calls Tryz.prog f vs.toArray w R := by
  have hl' : vs.length ≤ n := by simpa using hl
  refine calls_of_wp hf hb (h _ w ⟨rfl, ?_, fun i v hi => ?_⟩ hst)
  · simp [hn]; omega
  · obtain ⟨_, h2⟩ := argEnv_find vs 0 i v hi
    have h3 : vs.toArray[i]? = some v := by simpa using h2
    have hlt : i < vs.toArray.size := (Array.getElem?_eq_some_iff.1 h3).1
    simp only
    rw [Array.getElem?_append_left hlt]
    exact h3

/-- The whole of a block stored: in line. -/
theorem WL.storeW {w0 : World} {n : Nat} {ops : Array Oper} {Q : Exit → Act → World → Prop} {rest : List Oper} {ρ : Env} {H : List It} {ty t t' : TypeId} {pos : String} {af : Array Edge} {g : Option (Nat × Bool)} {x y : Operand} (j : Nat) {b sz : Nat} {cs us : Array Value} (hsz : Sized t sz) (hon : onB ops ρ ⟨none, .store t x y, ty, pos, af, g⟩ = some true) (hx : ev ρ x = some (.pointer (some ⟨b, 0, none⟩))) (hy : ev ρ y = some (.agg us)) (h1 : us.toList.all Value.oneCell' = true) (hv : us.size = sz) (hj : H[j]? = some (.blk b t' cs))
    (ho : cs.size = sz) (k : WL w0 n ops Q rest ρ (H.set j (.blk b t' us))) : WL w0 n ops Q (⟨none, .store t x y, ty, pos, af, g⟩ :: rest) ρ H :=
  WL.storeA j hsz hon hx hy (List.all_eq_true.1 h1) hv hj (by omega) (by rw [putAt_all (by omega)]; exact k)

def cellsOf : Value → Array Value
  | .agg cs => cs
  | _ => #[]
def layI (L : List Sto) : It → It
  | .blk g t cs => .blk g t (lay cs L)
  | x => x
def whI (c : Bool) (X : Array Value) : It → It
  | .blk g t cs => .blk g t (bif c then X else cs)
  | x => x
/-- Stores into the block at a place. -/
def blay (L : List Sto) : List It → Nat → List It
  | [], _ => []
  | x :: r, 0 => layI L x :: r
  | x :: r, j + 1 => x :: blay L r j
def bwh (c : Bool) (X : Array Value) : List It → Nat → List It
  | [], _ => []
  | x :: r, 0 => whI c X x :: r
  | x :: r, j + 1 => x :: bwh c X r j
/-- What lies at a place once c. -/
def bnew (c : Bool) (X : It) : List It → Nat → List It
  | [], _ => []
  | x :: r, 0 => (bif c then X else x) :: r
  | x :: r, j + 1 => x :: bnew c X r j
end Go.Proofs.YtlkkiimmangplaaGreatDoor

/- Where the fields of the program's structs lie. -/
namespace Go.Proofs.YtlkkiimmangplaaGreatDoor

theorem fa_31_0 (b off : Nat) (w : World) : (Instr.fieldAt 31 (.pointer (some ⟨b, off, none⟩)) 0).run Tryz.prog w = .ok (.pointer (some ⟨b, off + 0, none⟩)) w := by
  simp [Instr.fieldAt, Instr.sureAddr, underlying, Tryz.underlying31, fieldPlace, Tryz.sizeOf3, add0]
theorem fa_31_1 (b off : Nat) (w : World) : (Instr.fieldAt 31 (.pointer (some ⟨b, off, none⟩)) 1).run Tryz.prog w = .ok (.pointer (some ⟨b, off + 1, none⟩)) w := by
  simp [Instr.fieldAt, Instr.sureAddr, underlying, Tryz.underlying31, fieldPlace, Tryz.sizeOf3, add0]
theorem fa_31_2 (b off : Nat) (w : World) : (Instr.fieldAt 31 (.pointer (some ⟨b, off, none⟩)) 2).run Tryz.prog w = .ok (.pointer (some ⟨b, off + 2, none⟩)) w := by
  simp [Instr.fieldAt, Instr.sureAddr, underlying, Tryz.underlying31, fieldPlace, Tryz.sizeOf3, add0]
theorem fa_31_3 (b off : Nat) (w : World) : (Instr.fieldAt 31 (.pointer (some ⟨b, off, none⟩)) 3).run Tryz.prog w = .ok (.pointer (some ⟨b, off + 3, none⟩)) w := by
  simp [Instr.fieldAt, Instr.sureAddr, underlying, Tryz.underlying31, fieldPlace, Tryz.sizeOf3, add0]
theorem fa_31_4 (b off : Nat) (w : World) : (Instr.fieldAt 31 (.pointer (some ⟨b, off, none⟩)) 4).run Tryz.prog w = .ok (.pointer (some ⟨b, off + 4, none⟩)) w := by
  simp [Instr.fieldAt, Instr.sureAddr, underlying, Tryz.underlying31, fieldPlace, Tryz.sizeOf3, add0]
theorem fa_31_5 (b off : Nat) (w : World) : (Instr.fieldAt 31 (.pointer (some ⟨b, off, none⟩)) 5).run Tryz.prog w = .ok (.pointer (some ⟨b, off + 5, none⟩)) w := by
  simp [Instr.fieldAt, Instr.sureAddr, underlying, Tryz.underlying31, fieldPlace, Tryz.sizeOf3, add0]
theorem fa_31_6 (b off : Nat) (w : World) : (Instr.fieldAt 31 (.pointer (some ⟨b, off, none⟩)) 6).run Tryz.prog w = .ok (.pointer (some ⟨b, off + 6, none⟩)) w := by
  simp [Instr.fieldAt, Instr.sureAddr, underlying, Tryz.underlying31, fieldPlace, Tryz.sizeOf3, add0]
theorem fa_31_7 (b off : Nat) (w : World) : (Instr.fieldAt 31 (.pointer (some ⟨b, off, none⟩)) 7).run Tryz.prog w = .ok (.pointer (some ⟨b, off + 7, none⟩)) w := by
  simp [Instr.fieldAt, Instr.sureAddr, underlying, Tryz.underlying31, fieldPlace, Tryz.sizeOf3, add0]
theorem fa_31_8 (b off : Nat) (w : World) : (Instr.fieldAt 31 (.pointer (some ⟨b, off, none⟩)) 8).run Tryz.prog w = .ok (.pointer (some ⟨b, off + 8, none⟩)) w := by
  simp [Instr.fieldAt, Instr.sureAddr, underlying, Tryz.underlying31, fieldPlace, Tryz.sizeOf3, add0]
theorem fa_31_9 (b off : Nat) (w : World) : (Instr.fieldAt 31 (.pointer (some ⟨b, off, none⟩)) 9).run Tryz.prog w = .ok (.pointer (some ⟨b, off + 9, none⟩)) w := by
  simp [Instr.fieldAt, Instr.sureAddr, underlying, Tryz.underlying31, fieldPlace, Tryz.sizeOf3, add0]
theorem fa_31_10 (b off : Nat) (w : World) : (Instr.fieldAt 31 (.pointer (some ⟨b, off, none⟩)) 10).run Tryz.prog w = .ok (.pointer (some ⟨b, off + 10, none⟩)) w := by
  simp [Instr.fieldAt, Instr.sureAddr, underlying, Tryz.underlying31, fieldPlace, Tryz.sizeOf3, add0]
theorem fa_31_11 (b off : Nat) (w : World) : (Instr.fieldAt 31 (.pointer (some ⟨b, off, none⟩)) 11).run Tryz.prog w = .ok (.pointer (some ⟨b, off + 11, none⟩)) w := by
  simp [Instr.fieldAt, Instr.sureAddr, underlying, Tryz.underlying31, fieldPlace, Tryz.sizeOf3, add0]
theorem fa_31_12 (b off : Nat) (w : World) : (Instr.fieldAt 31 (.pointer (some ⟨b, off, none⟩)) 12).run Tryz.prog w = .ok (.pointer (some ⟨b, off + 12, none⟩)) w := by
  simp [Instr.fieldAt, Instr.sureAddr, underlying, Tryz.underlying31, fieldPlace, Tryz.sizeOf3, add0]
theorem fa_31_13 (b off : Nat) (w : World) : (Instr.fieldAt 31 (.pointer (some ⟨b, off, none⟩)) 13).run Tryz.prog w = .ok (.pointer (some ⟨b, off + 13, none⟩)) w := by
  simp [Instr.fieldAt, Instr.sureAddr, underlying, Tryz.underlying31, fieldPlace, Tryz.sizeOf3, add0]
theorem fa_31_14 (b off : Nat) (w : World) : (Instr.fieldAt 31 (.pointer (some ⟨b, off, none⟩)) 14).run Tryz.prog w = .ok (.pointer (some ⟨b, off + 14, none⟩)) w := by
  simp [Instr.fieldAt, Instr.sureAddr, underlying, Tryz.underlying31, fieldPlace, Tryz.sizeOf4, add0]
theorem fa_31_15 (b off : Nat) (w : World) : (Instr.fieldAt 31 (.pointer (some ⟨b, off, none⟩)) 15).run Tryz.prog w = .ok (.pointer (some ⟨b, off + 15, none⟩)) w := by
  simp [Instr.fieldAt, Instr.sureAddr, underlying, Tryz.underlying31, fieldPlace, Tryz.sizeOf3, add0]
theorem fa_31_16 (b off : Nat) (w : World) : (Instr.fieldAt 31 (.pointer (some ⟨b, off, none⟩)) 16).run Tryz.prog w = .ok (.pointer (some ⟨b, off + 16, none⟩)) w := by
  simp [Instr.fieldAt, Instr.sureAddr, underlying, Tryz.underlying31, fieldPlace, Tryz.sizeOf9, add0]
theorem fa_31_17 (b off : Nat) (w : World) : (Instr.fieldAt 31 (.pointer (some ⟨b, off, none⟩)) 17).run Tryz.prog w = .ok (.pointer (some ⟨b, off + 17, none⟩)) w := by
  simp [Instr.fieldAt, Instr.sureAddr, underlying, Tryz.underlying31, fieldPlace, Tryz.sizeOf9, add0]
theorem fa_31_18 (b off : Nat) (w : World) : (Instr.fieldAt 31 (.pointer (some ⟨b, off, none⟩)) 18).run Tryz.prog w = .ok (.pointer (some ⟨b, off + 18, none⟩)) w := by
  simp [Instr.fieldAt, Instr.sureAddr, underlying, Tryz.underlying31, fieldPlace, Tryz.sizeOf3, add0]
theorem fa_31_19 (b off : Nat) (w : World) : (Instr.fieldAt 31 (.pointer (some ⟨b, off, none⟩)) 19).run Tryz.prog w = .ok (.pointer (some ⟨b, off + 19, none⟩)) w := by
  simp [Instr.fieldAt, Instr.sureAddr, underlying, Tryz.underlying31, fieldPlace, Tryz.sizeOf3, add0]
theorem fa_31_20 (b off : Nat) (w : World) : (Instr.fieldAt 31 (.pointer (some ⟨b, off, none⟩)) 20).run Tryz.prog w = .ok (.pointer (some ⟨b, off + 20, none⟩)) w := by
  simp [Instr.fieldAt, Instr.sureAddr, underlying, Tryz.underlying31, fieldPlace, Tryz.sizeOf4, add0]
theorem fa_34_0 (b off : Nat) (w : World) : (Instr.fieldAt 34 (.pointer (some ⟨b, off, none⟩)) 0).run Tryz.prog w = .ok (.pointer (some ⟨b, off + 0, none⟩)) w := by
  simp [Instr.fieldAt, Instr.sureAddr, underlying, Tryz.underlying34, fieldPlace, Tryz.sizeOf3, add0]
theorem fa_34_1 (b off : Nat) (w : World) : (Instr.fieldAt 34 (.pointer (some ⟨b, off, none⟩)) 1).run Tryz.prog w = .ok (.pointer (some ⟨b, off + 1, none⟩)) w := by
  simp [Instr.fieldAt, Instr.sureAddr, underlying, Tryz.underlying34, fieldPlace, Tryz.sizeOf9, add0]
theorem fa_34_2 (b off : Nat) (w : World) : (Instr.fieldAt 34 (.pointer (some ⟨b, off, none⟩)) 2).run Tryz.prog w = .ok (.pointer (some ⟨b, off + 2, none⟩)) w := by
  simp [Instr.fieldAt, Instr.sureAddr, underlying, Tryz.underlying34, fieldPlace, Tryz.sizeOf31, add0]
theorem fa_34_3 (b off : Nat) (w : World) : (Instr.fieldAt 34 (.pointer (some ⟨b, off, none⟩)) 3).run Tryz.prog w = .ok (.pointer (some ⟨b, off + 23, none⟩)) w := by
  simp [Instr.fieldAt, Instr.sureAddr, underlying, Tryz.underlying34, fieldPlace, Tryz.sizeOf22, add0]
theorem fa_34_4 (b off : Nat) (w : World) : (Instr.fieldAt 34 (.pointer (some ⟨b, off, none⟩)) 4).run Tryz.prog w = .ok (.pointer (some ⟨b, off + 24, none⟩)) w := by
  simp [Instr.fieldAt, Instr.sureAddr, underlying, Tryz.underlying34, fieldPlace, Tryz.sizeOf3, add0]
theorem fa_34_5 (b off : Nat) (w : World) : (Instr.fieldAt 34 (.pointer (some ⟨b, off, none⟩)) 5).run Tryz.prog w = .ok (.pointer (some ⟨b, off + 25, none⟩)) w := by
  simp [Instr.fieldAt, Instr.sureAddr, underlying, Tryz.underlying34, fieldPlace, Tryz.sizeOf3, add0]
theorem fa_34_6 (b off : Nat) (w : World) : (Instr.fieldAt 34 (.pointer (some ⟨b, off, none⟩)) 6).run Tryz.prog w = .ok (.pointer (some ⟨b, off + 26, none⟩)) w := by
  simp [Instr.fieldAt, Instr.sureAddr, underlying, Tryz.underlying34, fieldPlace, Tryz.sizeOf3, add0]
theorem fa_34_7 (b off : Nat) (w : World) : (Instr.fieldAt 34 (.pointer (some ⟨b, off, none⟩)) 7).run Tryz.prog w = .ok (.pointer (some ⟨b, off + 27, none⟩)) w := by
  simp [Instr.fieldAt, Instr.sureAddr, underlying, Tryz.underlying34, fieldPlace, Tryz.sizeOf4, add0]
theorem fa_34_8 (b off : Nat) (w : World) : (Instr.fieldAt 34 (.pointer (some ⟨b, off, none⟩)) 8).run Tryz.prog w = .ok (.pointer (some ⟨b, off + 28, none⟩)) w := by
  simp [Instr.fieldAt, Instr.sureAddr, underlying, Tryz.underlying34, fieldPlace, Tryz.sizeOf9, add0]
theorem fa_34_9 (b off : Nat) (w : World) : (Instr.fieldAt 34 (.pointer (some ⟨b, off, none⟩)) 9).run Tryz.prog w = .ok (.pointer (some ⟨b, off + 29, none⟩)) w := by
  simp [Instr.fieldAt, Instr.sureAddr, underlying, Tryz.underlying34, fieldPlace, Tryz.sizeOf9, add0]
theorem fa_34_10 (b off : Nat) (w : World) : (Instr.fieldAt 34 (.pointer (some ⟨b, off, none⟩)) 10).run Tryz.prog w = .ok (.pointer (some ⟨b, off + 30, none⟩)) w := by
  simp [Instr.fieldAt, Instr.sureAddr, underlying, Tryz.underlying34, fieldPlace, Tryz.sizeOf3, add0]
theorem fa_34_11 (b off : Nat) (w : World) : (Instr.fieldAt 34 (.pointer (some ⟨b, off, none⟩)) 11).run Tryz.prog w = .ok (.pointer (some ⟨b, off + 31, none⟩)) w := by
  simp [Instr.fieldAt, Instr.sureAddr, underlying, Tryz.underlying34, fieldPlace, Tryz.sizeOf3, add0]
theorem fa_34_12 (b off : Nat) (w : World) : (Instr.fieldAt 34 (.pointer (some ⟨b, off, none⟩)) 12).run Tryz.prog w = .ok (.pointer (some ⟨b, off + 32, none⟩)) w := by
  simp [Instr.fieldAt, Instr.sureAddr, underlying, Tryz.underlying34, fieldPlace, Tryz.sizeOf32, add0]
theorem fa_51_0 (b off : Nat) (w : World) : (Instr.fieldAt 51 (.pointer (some ⟨b, off, none⟩)) 0).run Tryz.prog w = .ok (.pointer (some ⟨b, off + 0, none⟩)) w := by
  simp [Instr.fieldAt, Instr.sureAddr, underlying, Tryz.underlying51, fieldPlace, Tryz.sizeOf9, add0]
theorem fa_51_1 (b off : Nat) (w : World) : (Instr.fieldAt 51 (.pointer (some ⟨b, off, none⟩)) 1).run Tryz.prog w = .ok (.pointer (some ⟨b, off + 1, none⟩)) w := by
  simp [Instr.fieldAt, Instr.sureAddr, underlying, Tryz.underlying51, fieldPlace, Tryz.sizeOf4, add0]
theorem fa_51_2 (b off : Nat) (w : World) : (Instr.fieldAt 51 (.pointer (some ⟨b, off, none⟩)) 2).run Tryz.prog w = .ok (.pointer (some ⟨b, off + 2, none⟩)) w := by
  simp [Instr.fieldAt, Instr.sureAddr, underlying, Tryz.underlying51, fieldPlace, Tryz.sizeOf3, add0]
theorem fa_128_0 (b off : Nat) (w : World) : (Instr.fieldAt 128 (.pointer (some ⟨b, off, none⟩)) 0).run Tryz.prog w = .ok (.pointer (some ⟨b, off + 0, none⟩)) w := by
  simp [Instr.fieldAt, Instr.sureAddr, underlying, Tryz.underlying128, fieldPlace, Tryz.sizeOf5, add0]
theorem fa_128_1 (b off : Nat) (w : World) : (Instr.fieldAt 128 (.pointer (some ⟨b, off, none⟩)) 1).run Tryz.prog w = .ok (.pointer (some ⟨b, off + 1, none⟩)) w := by
  simp [Instr.fieldAt, Instr.sureAddr, underlying, Tryz.underlying128, fieldPlace, Tryz.sizeOf67, add0]
theorem fa_128_2 (b off : Nat) (w : World) : (Instr.fieldAt 128 (.pointer (some ⟨b, off, none⟩)) 2).run Tryz.prog w = .ok (.pointer (some ⟨b, off + 2, none⟩)) w := by
  simp [Instr.fieldAt, Instr.sureAddr, underlying, Tryz.underlying128, fieldPlace, Tryz.sizeOf126, add0]
theorem fa_128_3 (b off : Nat) (w : World) : (Instr.fieldAt 128 (.pointer (some ⟨b, off, none⟩)) 3).run Tryz.prog w = .ok (.pointer (some ⟨b, off + 3, none⟩)) w := by
  simp [Instr.fieldAt, Instr.sureAddr, underlying, Tryz.underlying128, fieldPlace, Tryz.sizeOf58, add0]
theorem fa_155_0 (b off : Nat) (w : World) : (Instr.fieldAt 155 (.pointer (some ⟨b, off, none⟩)) 0).run Tryz.prog w = .ok (.pointer (some ⟨b, off + 0, none⟩)) w := by
  simp [Instr.fieldAt, Instr.sureAddr, underlying, Tryz.underlying155, fieldPlace, Tryz.sizeOf9, add0]
theorem fa_155_1 (b off : Nat) (w : World) : (Instr.fieldAt 155 (.pointer (some ⟨b, off, none⟩)) 1).run Tryz.prog w = .ok (.pointer (some ⟨b, off + 1, none⟩)) w := by
  simp [Instr.fieldAt, Instr.sureAddr, underlying, Tryz.underlying155, fieldPlace, Tryz.sizeOf152, add0]
theorem fa_244_0 (b off : Nat) (w : World) : (Instr.fieldAt 244 (.pointer (some ⟨b, off, none⟩)) 0).run Tryz.prog w = .ok (.pointer (some ⟨b, off + 0, none⟩)) w := by
  simp [Instr.fieldAt, Instr.sureAddr, underlying, Tryz.underlying244, fieldPlace, Tryz.sizeOf9, add0]
theorem fa_244_1 (b off : Nat) (w : World) : (Instr.fieldAt 244 (.pointer (some ⟨b, off, none⟩)) 1).run Tryz.prog w = .ok (.pointer (some ⟨b, off + 1, none⟩)) w := by
  simp [Instr.fieldAt, Instr.sureAddr, underlying, Tryz.underlying244, fieldPlace, Tryz.sizeOf26, add0]

end Go.Proofs.YtlkkiimmangplaaGreatDoor

/- Struct and slice literals. -/
namespace Go.Proofs.YtlkkiimmangplaaGreatDoor
set_option maxRecDepth 20000
set_option linter.unusedSimpArgs false
theorem bd_34 {zs : Array Value} (hz : ∀ w : World, (zeroValue 34).run Tryz.prog w = .ok (.agg zs) w) {ps : Array (Nat × Value)} {cs : Array Value} (h : Instr.fill (fun i => ([(0, 1), (1, 1), (2, 21), (23, 1), (24, 1), (25, 1), (26, 1), (27, 1), (28, 1), (29, 1), (30, 1), (31, 1), (32, 1)] : List (Nat × Nat))[i]?) zs ps.toList = some cs) (w : World) : (Instr.build 34 ps).run Tryz.prog w = .ok (.agg cs) w := by
  simp [Instr.build, hz w, Value.cells, underlying, Tryz.underlying34, Tryz.sizeOf3, Tryz.sizeOf4, Tryz.sizeOf9, Tryz.sizeOf22, Tryz.sizeOf31, Tryz.sizeOf32, h]
theorem bd_128 {zs : Array Value} (hz : ∀ w : World, (zeroValue 128).run Tryz.prog w = .ok (.agg zs) w) {ps : Array (Nat × Value)} {cs : Array Value} (h : Instr.fill (fun i => ([(0, 1), (1, 1), (2, 1), (3, 1)] : List (Nat × Nat))[i]?) zs ps.toList = some cs) (w : World) : (Instr.build 128 ps).run Tryz.prog w = .ok (.agg cs) w := by
  simp [Instr.build, hz w, Value.cells, underlying, Tryz.underlying128, Tryz.sizeOf5, Tryz.sizeOf58, Tryz.sizeOf67, Tryz.sizeOf126, h]
theorem bd_155 {zs : Array Value} (hz : ∀ w : World, (zeroValue 155).run Tryz.prog w = .ok (.agg zs) w) {ps : Array (Nat × Value)} {cs : Array Value} (h : Instr.fill (fun i => ([(0, 1), (1, 1)] : List (Nat × Nat))[i]?) zs ps.toList = some cs) (w : World) : (Instr.build 155 ps).run Tryz.prog w = .ok (.agg cs) w := by
  simp [Instr.build, hz w, Value.cells, underlying, Tryz.underlying155, Tryz.sizeOf9, Tryz.sizeOf152, h]
theorem bd_244 {zs : Array Value} (hz : ∀ w : World, (zeroValue 244).run Tryz.prog w = .ok (.agg zs) w) {ps : Array (Nat × Value)} {cs : Array Value} (h : Instr.fill (fun i => ([(0, 1), (1, 1)] : List (Nat × Nat))[i]?) zs ps.toList = some cs) (w : World) : (Instr.build 244 ps).run Tryz.prog w = .ok (.agg cs) w := by
  simp [Instr.build, hz w, Value.cells, underlying, Tryz.underlying244, Tryz.sizeOf9, Tryz.sizeOf26, h]
theorem bd_281 {zs : Array Value} (hz : ∀ w : World, (zeroValue 281).run Tryz.prog w = .ok (.agg zs) w) {ps : Array (Nat × Value)} {cs : Array Value} (h : Instr.fill (fun i => ([(0, 1), (1, 1)] : List (Nat × Nat))[i]?) zs ps.toList = some cs) (w : World) : (Instr.build 281 ps).run Tryz.prog w = .ok (.agg cs) w := by
  simp [Instr.build, hz w, Value.cells, underlying, Tryz.underlying281, Tryz.sizeOf4, Tryz.sizeOf9, h]
open Go.RowKit in
theorem run_buildSlice {t e sz m : Nat} {z : Value} {ps : Array (Nat × Value)} {cs : Array Value} (hu : Tryz.prog.underlying t = some (.slice e)) (hsz : Sized e sz) (hz : ∀ w : World, (zeroValue e).run Tryz.prog w = .ok z w)
    (hm : Nat.ble (m * sz) 1000 = true) (h0 : Nat.beq (m * sz) 0 = false) (h : Instr.fill (fun i => some (i * sz, sz)) ((Array.range (m * sz)).map (z.cells[· % z.cells.size]!)) ps.toList = some cs) (w : World) : (Instr.buildSlice t m ps).run Tryz.prog w = .ok (.slice (some ⟨w.heap.size, 0, none⟩) m m) (w.alloc (.cells cs e)) := by
  have h1 : ¬ (m * sz > 16777216) := by
    have : m * sz ≤ 1000 := by simpa using hm
    omega
  have h2 : ¬ (m * sz = 0) := fun e => by rw [e] at h0; cases h0
  unfold Instr.buildSlice
  simp [underlying, hu, Sem.run_bind, hsz w, hz w]
  rw [if_neg (by omega), if_neg h2]
  simp only [h]
  simp [newRow]; try rfl
/-- One-cell parts put in their places. -/
def setAll (pl : List (Nat × Nat)) : Array Value → List (Nat × Value) → Array Value
  | zs, [] => zs
  | zs, (i, v) :: r => setAll pl (zs.setIfInBounds ((pl[i]?).getD (0, 0)).1 v) r
def okAll (pl : List (Nat × Nat)) (m : Nat) (ps : List (Nat × Value)) : Bool := ps.all fun p => match pl[p.1]? with | some (o, 1) => p.2.oneCell' && Nat.blt o m | _ => false
theorem fill_one {pl : List (Nat × Nat)} : ∀ (ps : List (Nat × Value)) (zs : Array Value), okAll pl zs.size ps = true → Instr.fill (fun i => pl[i]?) zs ps = some (setAll pl zs ps)
  | [], zs, _ => rfl
  | (i, v) :: r, zs, h => by
    unfold okAll at h
    rw [List.all_cons, Bool.and_eq_true] at h
    obtain ⟨h1, h2⟩ := h
    cases hp : pl[i]? with
    | none => rw [hp] at h1; cases h1
    | some q =>
      obtain ⟨o, sz⟩ := q
      rw [hp] at h1
      cases sz with
      | zero => cases h1
      | succ k =>
        cases k with
        | succ k => cases h1
        | zero =>
          have h1 : v.oneCell' = true ∧ Nat.blt o zs.size = true := Bool.and_eq_true_iff.1 h1
          have hvc : v.cells = #[v] := by cases v <;> first | rfl | (simp [Value.oneCell'] at h1)
          have ho : o < zs.size := by simpa [Nat.blt, Nat.succ_le_iff] using h1.2
          unfold Instr.fill setAll
          have hsz : ¬ (o + 1 > zs.size) := by omega
          simp only [hp, hvc, Option.getD_some, Array.size, List.length_cons, List.length_nil]
          simp
          exact ⟨by omega, fill_one r _ (by simpa [okAll] using h2)⟩
theorem bo_34 {zs : Array Value} (hz : ∀ w : World, (zeroValue 34).run Tryz.prog w = .ok (.agg zs) w) {ps : List (Nat × Value)} {cs : Array Value} (h1 : okAll [(0, 1), (1, 1), (2, 21), (23, 1), (24, 1), (25, 1), (26, 1), (27, 1), (28, 1), (29, 1), (30, 1), (31, 1), (32, 1)] zs.size ps = true) (h2 : setAll [(0, 1), (1, 1), (2, 21), (23, 1), (24, 1), (25, 1), (26, 1), (27, 1), (28, 1), (29, 1), (30, 1), (31, 1), (32, 1)] zs ps = cs) (w : World) : (Instr.build 34 ps.toArray).run Tryz.prog w = .ok (.agg cs) w :=
  bd_34 hz (by rw [← h2]; exact fill_one ps zs h1) w
theorem bo_128 {zs : Array Value} (hz : ∀ w : World, (zeroValue 128).run Tryz.prog w = .ok (.agg zs) w) {ps : List (Nat × Value)} {cs : Array Value} (h1 : okAll [(0, 1), (1, 1), (2, 1), (3, 1)] zs.size ps = true) (h2 : setAll [(0, 1), (1, 1), (2, 1), (3, 1)] zs ps = cs) (w : World) : (Instr.build 128 ps.toArray).run Tryz.prog w = .ok (.agg cs) w :=
  bd_128 hz (by rw [← h2]; exact fill_one ps zs h1) w
theorem bo_155 {zs : Array Value} (hz : ∀ w : World, (zeroValue 155).run Tryz.prog w = .ok (.agg zs) w) {ps : List (Nat × Value)} {cs : Array Value} (h1 : okAll [(0, 1), (1, 1)] zs.size ps = true) (h2 : setAll [(0, 1), (1, 1)] zs ps = cs) (w : World) : (Instr.build 155 ps.toArray).run Tryz.prog w = .ok (.agg cs) w :=
  bd_155 hz (by rw [← h2]; exact fill_one ps zs h1) w
theorem bo_244 {zs : Array Value} (hz : ∀ w : World, (zeroValue 244).run Tryz.prog w = .ok (.agg zs) w) {ps : List (Nat × Value)} {cs : Array Value} (h1 : okAll [(0, 1), (1, 1)] zs.size ps = true) (h2 : setAll [(0, 1), (1, 1)] zs ps = cs) (w : World) : (Instr.build 244 ps.toArray).run Tryz.prog w = .ok (.agg cs) w :=
  bd_244 hz (by rw [← h2]; exact fill_one ps zs h1) w
theorem bo_281 {zs : Array Value} (hz : ∀ w : World, (zeroValue 281).run Tryz.prog w = .ok (.agg zs) w) {ps : List (Nat × Value)} {cs : Array Value} (h1 : okAll [(0, 1), (1, 1)] zs.size ps = true) (h2 : setAll [(0, 1), (1, 1)] zs ps = cs) (w : World) : (Instr.build 281 ps.toArray).run Tryz.prog w = .ok (.agg cs) w :=
  bd_281 hz (by rw [← h2]; exact fill_one ps zs h1) w
end Go.Proofs.YtlkkiimmangplaaGreatDoor

/- More pure steps. -/
namespace Go.Proofs.YtlkkiimmangplaaGreatDoor
open Go.RowKit
set_option linter.unusedVariables false
set_option linter.unusedSimpArgs false
section
variable {w0 : World} {n : Nat} {ops : Array Oper} {Q : Exit → Act → World → Prop} {o : Oper} {rest : List Oper} {ρ : Env} {H : List It}
variable {d : Nat} {ty t t' : TypeId} {pos : String} {af : Array Edge} {g : Option (Nat × Bool)} {x y z k : Operand} {v u : Value}
theorem P.eqB {p q : Bool} (hu : Tryz.prog.underlying t = some .bool) (hx : ev ρ x = some (.bool p)) (hy : ev ρ y = some (.bool q)) : Pure w0 n ρ H ⟨some d, .binOp .eql t x y t', ty, pos, af, g⟩ (.bool (p == q)) :=
  fun a w hf _ => by
    have h := run_equal_bool (P := Tryz.prog) w t p q hu
    simp [execOp, hf.eval hx, hf.eval hy, eqGuard, binOp, Sem.run_bind, h]
theorem P.eqNil {e : TypeId} {p : Option Addr} (hu : Tryz.prog.underlying t = some (.pointer e)) (hx : ev ρ x = some (.pointer p)) (hy : ev ρ y = some (.pointer none)) : Pure w0 n ρ H ⟨some d, .binOp .eql t x y t', ty, pos, af, g⟩ (.bool p.isNone) :=
  fun a w hf _ => by
    have h := run_equal_pointer_nil (P := Tryz.prog) w t p (by simp [Program.pointee, hu])
    simp [execOp, hf.eval hx, hf.eval hy, eqGuard, binOp, Sem.run_bind, h]
/-- Whole numbers turned into another kind. -/
theorem P.conv {src dst : TypeId} {j j' : IntKind} {p q : Int} (hs : (Tryz.prog.underlying src).isSome = true) (hd : Tryz.prog.underlying dst = some (.int j)) (hx : ev ρ x = some (.int j' p)) (hq : j.wrap p = q) : Pure w0 n ρ H ⟨some d, .convert src dst x, ty, pos, af, g⟩ (.int j q) :=
  fun a w hf _ => by
    have e : Tryz.prog.intKind dst = j := by simp [Program.intKind, hd]
    have h := run_convert_int (P := Tryz.prog) w src dst j' p hs (by rw [e]; exact hd)
    rw [e, hq] at h
    simp [execOp, hf.eval hx, h]
/-- Parts of strings. -/
theorem P.subL {s : ByteArray} {j : IntKind} {i : Int} (hu : Tryz.prog.underlying t = some .string) (hx : ev ρ x = some (.string s)) (hy : ev ρ y = some (.int j i)) (h0 : 0 ≤ i) (h1 : i ≤ s.size) : Pure w0 n ρ H ⟨some d, .slice t x (some y) none none, ty, pos, af, g⟩ (.string (s.extract i.toNat s.size)) :=
  fun a w hf _ => by
    simp [execOp, hf.eval hx, hf.eval hy, run_sliceAt_string (P := Tryz.prog) w t _ _ _ _ hu, Instr.slice, underlying, hu, Instr.sliceBounds, run_sliceBound, h0, h1]
theorem P.subH {s : ByteArray} {j : IntKind} {i : Int} (hu : Tryz.prog.underlying t = some .string) (hx : ev ρ x = some (.string s)) (hy : ev ρ y = some (.int j i)) (h0 : 0 ≤ i) (h1 : i ≤ s.size) : Pure w0 n ρ H ⟨some d, .slice t x none (some y) none, ty, pos, af, g⟩ (.string (s.extract 0 i.toNat)) :=
  fun a w hf _ => by
    simp [execOp, hf.eval hx, hf.eval hy, run_sliceAt_string (P := Tryz.prog) w t _ _ _ _ hu, Instr.slice, underlying, hu, Instr.sliceBounds, run_sliceBound, h0, h1]
theorem P.subLH {s : ByteArray} {j j' : IntKind} {i l : Int} (hu : Tryz.prog.underlying t = some .string) (hx : ev ρ x = some (.string s)) (hy : ev ρ y = some (.int j i)) (hz : ev ρ z = some (.int j' l)) (h0 : 0 ≤ i) (h1 : i ≤ l) (h2 : l ≤ s.size) : Pure w0 n ρ H ⟨some d, .slice t x (some y) (some z) none, ty, pos, af, g⟩ (.string (s.extract i.toNat l.toNat)) :=
  fun a w hf _ => by
    have hl : 0 ≤ l := by omega
    have el : (l.toNat : Int) = l := Int.toNat_of_nonneg hl
    simp [execOp, hf.eval hx, hf.eval hy, hf.eval hz, run_sliceAt_string (P := Tryz.prog) w t _ _ _ _ hu, Instr.slice, underlying, hu, Instr.sliceBounds, run_sliceBound, h0, h1, h2, hl, el]
theorem P.cutH {e m c : Nat} {A : Option Addr} {j : IntKind} {i : Int} (hu : Tryz.prog.underlying t = some (.slice e)) {sz : Nat} (hsz : Sized e sz) (hx : ev ρ x = some (.slice A m c)) (hy : ev ρ y = some (.int j i)) (h0 : 0 ≤ i) (h1 : i ≤ c) :
    Pure w0 n ρ H ⟨some d, .slice t x none (some y) none, ty, pos, af, g⟩ (.slice A i.toNat c) :=
  fun a w hf _ => by
    have hu' : Tryz.prog.underlying t = some (.slice (Tryz.prog.elem t)) := by simp [Program.elem, hu]
    have he : Tryz.prog.elem t = e := by simp [Program.elem, hu]
    have h := run_slice_h (P := Tryz.prog) w t A m c hu' j i h0 h1
    rw [he, hsz w] at h
    have e0 : (A.map fun x => x.add 0) = A := by cases A <;> simp [Addr.add]
    simp [execOp, hf.eval hx, hf.eval hy, run_sliceAt_slice (P := Tryz.prog) w t _ _ _ _ hu', h, sliced, e0]
/-- Bits, by a fact about the two numbers. -/
theorem P.bits {op : BinOp} {j : IntKind} {p q r : Int} (hop : (op == .and || op == .or) = true) (hx : ev ρ x = some (.int j p)) (hy : ev ρ y = some (.int j q)) (hr : ∀ w : World, (Op.intBits op j p q).run Tryz.prog w = .ok (.int j r) w) : Pure w0 n ρ H ⟨some d, .binOp op t x y t', ty, pos, af, g⟩ (.int j r) :=
  fun a w hf _ => by
    cases op <;> simp at hop <;> simp [execOp, hf.eval hx, hf.eval hy, eqGuard, binOp, Sem.run_bind, hr w]
theorem P.shl {j j' : IntKind} {p q r : Int} (hx : ev ρ x = some (.int j p)) (hy : ev ρ y = some (.int j' q)) (h0 : 0 ≤ q) (h1 : q ≤ j.bits) (hr : j.wrap (p * 2 ^ q.toNat) = r) : Pure w0 n ρ H ⟨some d, .binOp .shl t x y t', ty, pos, af, g⟩ (.int j r) :=
  fun a w hf _ => by
    have h := shift_shl j j' p q h0 h1
    rw [hr] at h
    simp [execOp, hf.eval hx, hf.eval hy, eqGuard, binOp, h]
theorem P.shr {j j' : IntKind} {p q r : Int} (hx : ev ρ x = some (.int j p)) (hy : ev ρ y = some (.int j' q)) (h0 : 0 ≤ q) (h1 : q ≤ j.bits) (hr : p / 2 ^ q.toNat = r) : Pure w0 n ρ H ⟨some d, .binOp .shr t x y t', ty, pos, af, g⟩ (.int j r) :=
  fun a w hf _ => by
    have h : Op.shift .shr j p j' q = pure (.int j r) := by
      have hm : min q.toNat j.bits = q.toNat := by omega
      have hp : (0 : Int) ≤ 2 ^ q.toNat := Int.pow_nonneg (by decide)
      rw [← hr]
      simp [Op.shift, hm, Int.fdiv_eq_ediv_of_nonneg _ hp]
      omega
    simp [execOp, hf.eval hx, hf.eval hy, eqGuard, binOp, h]
/-- The address of an element of an array. -/
theorem P.elemArr {e b off N sz : Nat} {i : Int} (hu : Tryz.prog.underlying t = some (.array N e)) (hsz : Sized e sz) (hx : ev ρ x = some (.pointer (some ⟨b, off, none⟩))) (hy : ev ρ y = some (.int .i64 i))
    (h0 : 0 ≤ i) (h1 : i < N) : Pure w0 n ρ H ⟨some d, .indexAddr t x y, ty, pos, af, g⟩ (.pointer (some ⟨b, off + i.toNat * sz, none⟩)) :=
  fun a w hf hs => by
    simp [execOp, hf.eval hx, hf.eval hy, Instr.indexAt, Instr.sureAddr, asIntOf, underlying, hu, h0, h1, hsz w, add0]
/-- The first part of an array. -/
theorem P.arrH {e b off N sz : Nat} {i : Int} (hu : Tryz.prog.underlying t = some (.array N e)) (hsz : Sized e sz) (hx : ev ρ x = some (.pointer (some ⟨b, off, none⟩))) (hy : ev ρ y = some (.int .i64 i))
    (h0 : 0 ≤ i) (h1 : i ≤ N) : Pure w0 n ρ H ⟨some d, .slice t x none (some y) none, ty, pos, af, g⟩ (.slice (some ⟨b, off, none⟩) i.toNat N) :=
  fun a w hf hs => by
    simp [execOp, hf.eval hx, hf.eval hy, Instr.sliceAt, Instr.sureAddr, underlying, hu, Instr.sliceBounds, run_sliceBound, h0, h1, hsz w, add0]
/-- Bytes of an own block as a string. -/
theorem P.bytesOwn (j : Nat) {src dst e b off len cap ty' : Nat} {cs : Array Value} {xs : List Int} (hs : Tryz.prog.underlying src = some (.slice e)) (he : Tryz.prog.underlying e = some (.int .u8)) (hd : Tryz.prog.underlying dst = some .string)
    (hx : ev ρ x = some (.slice (some ⟨b, off, none⟩) len cap)) (hj : H[j]? = some (.blk b ty' cs)) (hl : xs.length = len) (hc : ∀ i, i < len → cs[off + i]? = some (.int .u8 (xs.getD i 0))) : Pure w0 n ρ H ⟨some d, .convert src dst x, ty, pos, af, g⟩ (.string (strOfNums xs)) :=
  fun a w hf hst => by
    have hb := (hst.ok j _ hj).2
    have h := run_convert_bytes_arg (P := Tryz.prog) w src e hs he b off len cap xs hl (fun i hi => by rw [cell_blk hb]; exact hc i hi) dst hd
    simp [execOp, hf.eval hx, h]
end
end Go.Proofs.YtlkkiimmangplaaGreatDoor

/- Calls that turn the caller's own memory. -/
namespace Go.Proofs.YtlkkiimmangplaaGreatDoor
open Go.RowKit
set_option linter.unusedVariables false
set_option linter.unusedSimpArgs false
/-- It hands back v, and own memory is H. -/
def Mo (w0 : World) (v : Value) (H : List It) : Ending → World → Prop := fun e w' => e = .returned v ∧ St w0 H w'
theorem St.tail {w0 w : World} {x : It} {H : List It} (h : St w0 (x :: H) w) : St w0 H w :=
  ⟨h.below, fun i y hy => h.ok (i + 1) y (by simpa using hy), fun i j y z hy hz hij => h.apart (i + 1) (j + 1) y z (by simpa using hy) (by simpa using hz) (by omega)⟩
theorem St.swap2 {w0 w : World} {x y : It} {H : List It} (h : St w0 (x :: y :: H) w) : St w0 (y :: x :: H) w := by
  have hg : ∀ (i : Nat) (z : It), (y :: x :: H)[i]? = some z → (x :: y :: H)[if i = 0 then 1 else if i = 1 then 0 else i]? = some z := by
    intro i z hz
    match i with
    | 0 => simpa using hz
    | 1 => simpa using hz
    | i + 2 => simpa using hz
  refine ⟨h.below, fun i z hz => h.ok _ z (hg i z hz), fun i j z u hz hu hij => h.apart _ _ z u (hg i z hz) (hg j u hu) (by split <;> split <;> (try split) <;> (try split) <;> omega)⟩
theorem Mo.swap2 {w0 : World} {v : Value} {x y : It} {H : List It} {e : Ending} {w : World} (h : Mo w0 v (x :: y :: H) e w) : Mo w0 v (y :: x :: H) e w := ⟨h.1, h.2.swap2⟩
theorem Mo.of {w0 : World} {u v : Value} {H H' : List It} {w : World} (e : v = u) (eH : H = H') (h : St w0 H w) : Mo w0 u H' (.returned v) w := ⟨by rw [e], eH ▸ h⟩
/-- From far: a call that leaves all as it was, told from further above. -/
theorem RetV.mo {w0 w : World} {H : List It} {v : Value} {e : Ending} {w' : World} (hs : St w0 H w) (h : RetV w v e w') : Mo w0 v H e w' := ⟨h.1, by simpa using hs.call h.2⟩
theorem foldl_putAt (off : Nat) : ∀ (l : List Value) (k : Nat) (cs : Array Value), (l.zipIdx k).foldl (fun cs (p : Value × Nat) => cs.setIfInBounds (off + p.2) p.1) cs = putAt cs (off + k) l
  | [], k, cs => rfl
  | v :: r, k, cs => by
    rw [List.zipIdx_cons, List.foldl_cons, foldl_putAt off r (k + 1)]
    rfl
theorem putAt_append : ∀ (vs ws : List Value) (cs : Array Value) (o : Nat), putAt (putAt cs o vs) (o + vs.length) ws = putAt cs o (vs ++ ws)
  | [], ws, cs, o => rfl
  | v :: r, ws, cs, o => by
    show putAt (putAt (cs.setIfInBounds o v) (o + 1) r) (o + (r.length + 1)) ws = _
    rw [show o + (r.length + 1) = o + 1 + r.length by omega, putAt_append r ws]
    rfl
def flatC (us : List Value) : List Value := us.flatMap (fun v => v.cells.toList)
theorem fill_row {sz : Nat} : ∀ (us : List Value) (k : Nat) (cs : Array Value), us.all (fun v => Nat.beq v.cells.size sz) = true → (k + us.length) * sz ≤ cs.size →
    Instr.fill (fun i => some (i * sz, sz)) cs ((List.range' k us.length).zip us) = some (putAt cs (k * sz) (flatC us))
  | [], k, cs, _, _ => rfl
  | v :: r, k, cs, h, hl => by
    rw [List.all_cons, Bool.and_eq_true] at h
    have hv : v.cells.size = sz := Nat.eq_of_beq_eq_true h.1
    simp only [List.length_cons] at hl ⊢
    rw [List.range'_succ, List.zip_cons_cons]
    unfold Instr.fill
    have hroom : k * sz + sz ≤ cs.size := by
      have : (k + 1) * sz ≤ (k + (r.length + 1)) * sz := Nat.mul_le_mul_right _ (by omega)
      rw [Nat.succ_mul] at this
      omega
    have hcond : (decide (v.cells.size ≠ sz) || decide (k * sz + v.cells.size > cs.size)) = false := by
      rw [hv]; simp; omega
    simp only [hcond]
    have e1 : v.cells.zipIdx.foldl (fun cs (p : Value × Nat) => cs.setIfInBounds (k * sz + p.2) p.1) cs = putAt cs (k * sz) v.cells.toList := by
      rw [← Array.foldl_toList, Array.toList_zipIdx, foldl_putAt]; rfl
    have e2 : ∀ x, x = putAt cs (k * sz) v.cells.toList → Instr.fill (fun i => some (i * sz, sz)) x ((List.range' (k + 1) r.length).zip r) = some (putAt cs (k * sz) (flatC (v :: r))) := by
      rintro _ rfl
      rw [fill_row r (k + 1) _ h.2 (by rw [putAt_size]; rw [show k + 1 + r.length = k + (r.length + 1) by omega]; exact hl)]
      rw [show (k + 1) * sz = k * sz + v.cells.toList.length by rw [Nat.succ_mul]; simp [hv], putAt_append]
      rfl
    exact e2 _ e1
theorem flatC_length {sz : Nat} : ∀ (us : List Value), us.all (fun v => Nat.beq v.cells.size sz) = true → (flatC us).length = us.length * sz
  | [], _ => by simp [flatC]
  | v :: r, h => by
    rw [List.all_cons, Bool.and_eq_true] at h
    have hv : v.cells.size = sz := Nat.eq_of_beq_eq_true h.1
    have := flatC_length r h.2
    simp [flatC] at this ⊢
    rw [this, hv, Nat.succ_mul, Nat.add_comm]
theorem run_row {t e sz : Nat} {z : Value} {us : List Value} (hu : Tryz.prog.underlying t = some (.slice e)) (hsz : Sized e sz) (hz : ∀ w : World, (zeroValue e).run Tryz.prog w = .ok z w)
    (hm : Nat.ble (us.length * sz) 1000 = true) (h0 : Nat.beq (us.length * sz) 0 = false) (h : us.all (fun v => Nat.beq v.cells.size sz) = true) (w : World) : (Instr.buildSlice t us.length ((List.range' 0 us.length).zip us).toArray).run Tryz.prog w = .ok (.slice (some ⟨w.heap.size, 0, none⟩) us.length us.length) (w.alloc (.cells (flatC us).toArray e)) := by
  refine run_buildSlice hu hsz hz hm h0 ?_ w
  have := fill_row us 0 ((Array.range (us.length * sz)).map (z.cells[· % z.cells.size]!)) h (by simp)
  rw [this, Nat.zero_mul]
  have e := putAt_all (cs := (Array.range (us.length * sz)).map (z.cells[· % z.cells.size]!)) (us := (flatC us).toArray) (by simp [flatC_length us h])
  simpa using e
theorem run_rowL {t e sz m : Nat} {z : Value} {us : List Value} {is : List Nat} {cs : Array Value} (hu : Tryz.prog.underlying t = some (.slice e)) (hsz : Sized e sz) (hz : ∀ w : World, (zeroValue e).run Tryz.prog w = .ok z w)
    (hlen : us.length = m) (his : is = List.range' 0 m) (hm : Nat.ble (m * sz) 1000 = true) (h0 : Nat.beq (m * sz) 0 = false) (h : us.all (fun v => Nat.beq v.cells.size sz) = true) (hcs : (flatC us).toArray = cs) (w : World) : (Instr.buildSlice t m (is.zip us).toArray).run Tryz.prog w = .ok (.slice (some ⟨w.heap.size, 0, none⟩) m m) (w.alloc (.cells cs e)) := by
  subst hlen his hcs
  exact run_row hu hsz hz hm h0 h w
def notBool : Value → Bool
  | .bool _ => false
  | _ => true
def onU (ops : Array Oper) (ρ : Env) (o : Oper) : Bool :=
  match o.guard with
  | none => false
  | some (j, _) => match (ops[j]?).bind (·.dst) with
    | some s => match Env.find ρ s with
      | some v => notBool v
      | none => false
    | none => false
theorem wanted_undef {n : Nat} {ρ : Env} {a : Act} {ops : Array Oper} {o : Oper} (hf : Fits n ρ a) (h : onU ops ρ o = true) : Region.wanted o (yielded ops a.tmps) = false := by
  unfold onU at h
  unfold Region.wanted
  cases hg : o.guard with
  | none => rw [hg] at h; cases h
  | some jb =>
    obtain ⟨j, want⟩ := jb
    rw [hg] at h
    simp only at h ⊢
    cases hs : (ops[j]?).bind (·.dst) with
    | none => rw [hs] at h; cases h
    | some s =>
      rw [hs] at h
      simp only at h
      cases hv : Env.find ρ s with
      | none => rw [hv] at h; cases h
      | some v =>
        rw [hv] at h
        have ht := hf.at_ s v hv
        have hy : yielded ops a.tmps j = none := by
          unfold yielded
          rw [hs]
          cases v <;> simp [notBool] at h <;> simp [ht]
        rw [hy]
        cases want <;> rfl
theorem WL.offU {w0 : World} {n : Nat} {ops : Array Oper} {Q : Exit → Act → World → Prop} {o : Oper} {rest : List Oper} {ρ : Env} {H : List It} (hon : onU ops ρ o = true) (hd : dlt o.dst n = true) (k : WL w0 n ops Q rest (dput o.dst undef ρ) H) : WL w0 n ops Q (o :: rest) ρ H := fun a w hf hs => by
  unfold wpList
  rw [if_neg (by rw [wanted_undef hf hon]; simp)]
  exact k _ _ (hf.dput hd) hs
theorem WQ.offU {w0 : World} {n : Nat} {ops : Array Oper} {Q : Exit → Act → World → Prop} {o : Oper} {rest : List Oper} {ρ : Env} {H : List It} (hon : onU ops ρ o = true) (hd : dlt o.dst n = true) (k : WQ w0 n ops Q rest (dput o.dst undef ρ) H) : WQ w0 n ops Q (o :: rest) ρ H := fun a hf => by
  unfold wpQuiet
  rw [if_neg (by rw [wanted_undef hf hon]; simp)]
  exact k _ (hf.dput hd)
theorem sel_range {H : List It} : sel H (List.range H.length) = H := by
  apply List.ext_getElem?
  intro i
  unfold sel
  rw [List.getElem?_map]
  rcases Nat.lt_or_ge i H.length with h | h
  · rw [List.getElem?_range h]; simp [h]
  · rw [List.getElem?_eq_none (by simpa using h), List.getElem?_eq_none h]; rfl
theorem selOk_range {H : List It} : selOk H (List.range H.length) = true := by
  unfold selOk
  rw [Bool.and_eq_true]
  refine ⟨List.all_eq_true.2 fun i hi => ?_, decide_eq_true List.nodup_range⟩
  have := List.mem_range.1 hi
  simpa [Nat.blt, Nat.succ_le_iff] using this
section
variable {w0 : World} {n : Nat} {ops : Array Oper} {Q : Exit → Act → World → Prop} {o : Oper} {rest : List Oper} {ρ : Env} {H : List It}
variable {d : Nat} {ty t t' : TypeId} {pos : String} {af : Array Edge} {g : Option (Nat × Bool)} {x y z : Operand} {v u : Value}
theorem WL.callo {H' : List It} {f : FuncId} {xs : List Operand} {vs : List Value} {ats : Array TypeId} (he : Ent f)
    (hon : onB ops ρ ⟨some d, .call ⟨.value (.func f), xs.toArray, ats⟩, ty, pos, af, g⟩ = some true) (hd : Nat.blt d n = true) (hx : evl ρ xs = some vs)
    (hc : ∀ w, St w0 H w → Calls Tryz.prog f vs.toArray w (Mo w0 v H'))
    (k : WL w0 n ops Q rest ((d, v) :: ρ) H') : WL w0 n ops Q (⟨some d, .call ⟨.value (.func f), xs.toArray, ats⟩, ty, pos, af, g⟩ :: rest) ρ H :=
  WL.callm (α := Unit) (S := fun _ => True) (v := fun _ => v) (H' := fun _ => H') he hon hd hx (fun w hs => (hc w hs).mono fun e w' ⟨h1, h2⟩ => ⟨(), trivial, h1, h2⟩) (fun _ _ => k)
theorem WL.callco {H' : List It} {f : FuncId} {xs : List Operand} {vs : List Value} {ats : Array TypeId} {cap : Array Value} (he : Ent f)
    (hon : onB ops ρ ⟨some d, .call ⟨.value x, xs.toArray, ats⟩, ty, pos, af, g⟩ = some true) (hd : Nat.blt d n = true) (hcal : ev ρ x = some (.func (.func f) #[] cap)) (hx : evl ρ xs = some vs)
    (hc : ∀ w, St w0 H w → Calls Tryz.prog f (vs.toArray ++ cap) w (Mo w0 v H'))
    (k : WL w0 n ops Q rest ((d, v) :: ρ) H') : WL w0 n ops Q (⟨some d, .call ⟨.value x, xs.toArray, ats⟩, ty, pos, af, g⟩ :: rest) ρ H :=
  WL.callG (α := Unit) (S := fun _ => True) (v := fun _ => v) (H' := fun _ => H') he rfl rfl hon hd hcal hx (fun w hs => (hc w hs).mono fun e w' ⟨h1, h2⟩ => ⟨(), trivial, h1, h2⟩) (fun _ _ => k)
theorem P.makeBound {f : FuncId} {xs ys : List Operand} {vs us : List Value} (hx : evl ρ xs = some vs) (hy : evl ρ ys = some us)
    : Pure w0 n ρ H ⟨some d, .makeFunc (.func f) ys.toArray xs.toArray, ty, pos, af, g⟩ (.func (.func f) us.toArray vs.toArray) :=
  fun a w hf hs => by
    have hmap : xs.toArray.map a.eval = vs.toArray := by rw [List.map_toArray, hf.evals hx]
    have hmap' : ys.toArray.map a.eval = us.toArray := by rw [List.map_toArray, hf.evals hy]
    simp [execOp, Instr.makeFunc, hmap, hmap']
/-- A call of a bound method. -/
theorem WL.callb {f : FuncId} {xs : List Operand} {vs : List Value} {ats : Array TypeId} {bd cap : Array Value} (he : Ent f)
    (hon : onB ops ρ ⟨some d, .call ⟨.value x, xs.toArray, ats⟩, ty, pos, af, g⟩ = some true) (hd : Nat.blt d n = true) (hcal : ev ρ x = some (.func (.func f) bd cap)) (hx : evl ρ xs = some vs)
    (hc : ∀ w, St w0 H w → Calls Tryz.prog f (bd ++ vs.toArray ++ cap) w (Mo w0 v H))
    (k : WL w0 n ops Q rest ((d, v) :: ρ) H) : WL w0 n ops Q (⟨some d, .call ⟨.value x, xs.toArray, ats⟩, ty, pos, af, g⟩ :: rest) ρ H :=
  WL.on hon fun a w hf hs => by
    have hmap : xs.toArray.map a.eval = vs.toArray := by rw [List.map_toArray, hf.evals hx]
    have hrun : (execOp a.eval ⟨some d, .call ⟨.value x, xs.toArray, ats⟩, ty, pos, af, g⟩).run Tryz.prog w = .ok (.enter f (bd ++ vs.toArray ++ cap)) w := by
      simp [execOp, resolve, hf.eval hcal, hmap, Deferred.ofValue, invoke, Sem.run_bind, he (bd ++ (vs.toArray ++ cap)) w]
    unfold Oper.wp
    rw [hrun, Oper.upon_enter]
    refine (hc w hs).mono fun e w' h => ?_
    obtain ⟨rfl, hst⟩ := h
    exact k _ _ (hf.put hd) hst
/-- A read that holds wherever own memory is so. -/
theorem P.loadH {ad : Addr} (hag : NoAgg t) (hx : ev ρ x = some (.pointer (some ad))) (hv : ∀ w, St w0 H w → w.cell? ad = some v) : Pure w0 n ρ H ⟨some d, .load t x, ty, pos, af, g⟩ v :=
  fun a w hf hs => by simp [execOp, hf.eval hx, run_loadAt_cell hag (hv w hs)]
variable {vs : List (Lt → Value)} {Hs : (Nat → Bool) → Lt → List It} {al : List Nat} {i : Nat}
/-- What comes behind has not been done. -/
theorem Stp.off (ks : List Nat) (hks : ks.all (fun k => reachB ops 64 k i && !(Nat.beq i k)) = true) (h : Stp w0 n ops Q ρ vs (fun b s => Hs (offl ks b) s) al i o) : Stp w0 n ops Q ρ vs Hs al i o := fun b s hcl hb hd => by
  have key : ∀ c : Nat → Bool, (∀ k ∈ ks, c k = false) → offl ks c = c := by
    intro c hc
    funext k
    unfold offl
    cases hq : ks.any (fun x => Nat.beq x k) with
    | false => rfl
    | true =>
      obtain ⟨x, hx, hxk⟩ := List.any_eq_true.1 hq
      rw [← Nat.eq_of_beq_eq_true hxk, hc x hx]; rfl
  have h1 : ∀ k ∈ ks, b k = false := by
    intro k hk
    have := List.all_eq_true.1 hks k hk
    rw [Bool.and_eq_true] at this
    cases hbk : b k with
    | false => rfl
    | true =>
      have := reach_closed hcl _ _ _ this.1 hbk
      rw [hb] at this; cases this
  have h2 : ∀ k ∈ ks, up b i k = false := by
    intro k hk
    have := List.all_eq_true.1 hks k hk
    rw [Bool.and_eq_true] at this
    have hne : Nat.beq k i = false := by
      have h3 := this.2
      cases hq : Nat.beq k i with
      | false => rfl
      | true =>
        rw [Nat.eq_of_beq_eq_true hq] at h3
        simp at h3
    unfold up
    rw [hne]
    exact h1 k hk
  have := h b s hcl hb hd
  simp only [key b h1, key (up b i) h2] at this
  exact this
/-- A slice literal. -/
theorem Stp.row {e m : Nat} {ps : List (Nat × Operand)} (j : Nat) (hi : al.contains i = true) (hr : ∀ (b : Nat → Bool) (s : Lt), (onB ops (envOf ops (fun j => nth vs j s) (dps ⟨some d, .buildSlice t m ps.toArray, ty, pos, af, g⟩) ++ ρ) ⟨some d, .buildSlice t m ps.toArray, ty, pos, af, g⟩ = some true) ∧
      ∃ (us : List Value) (cs : Array Value), evl (envOf ops (fun j => nth vs j s) (dps ⟨some d, .buildSlice t m ps.toArray, ty, pos, af, g⟩) ++ ρ) (ps.map (·.2)) = some us ∧ (∀ w : World, (Instr.buildSlice t m ((ps.map (·.1)).zip us).toArray).run Tryz.prog w = .ok (.slice (some ⟨w.heap.size, 0, none⟩) m m) (w.alloc (.cells cs e))) ∧
      ∀ q, nth vs i (updl s i (q, 0)) = .slice (some ⟨q, 0, none⟩) m m ∧ ∃ X, (Hs b s)[j]? = some (bif b i then X else .nil) ∧ (b i = false → Hs (up b i) (updl s i (q, 0)) = (Hs b s).set j (.blk q e cs))) : Stp w0 n ops Q ρ vs Hs al i ⟨some d, .buildSlice t m ps.toArray, ty, pos, af, g⟩ := fun b s hcl hb hd => by
  obtain ⟨hon, us, cs, hx, hbs, hq⟩ := hr b s
  refine OS.val hon fun a w hf hs => ⟨.slice (some ⟨w.heap.size, 0, none⟩) m m, w.alloc (.cells cs e), ?_, ?_⟩
  · have hmap : (ps.toArray.map fun (i, x) => (i, a.eval x)) = ((ps.map (·.1)).zip us).toArray := by
      rw [← hf.evals hx]
      simp only [List.map_toArray, List.map_map]
      congr 1
      induction ps with
      | nil => rfl
      | cons p r ih => simp [List.zip_map']
    simp only [execOp]
    rw [hmap]
    simp [hbs w]
  · obtain ⟨h1, X, hj, h2⟩ := hq w.heap.size
    rw [hb] at hj
    refine ⟨_, .inr ⟨by simpa using hi, (w.heap.size, 0), rfl⟩, h1.symm, ?_⟩
    rw [h2 hb]
    have hb2 := hs.below.alloc hs.size (.cells cs e)
    refine hs.swap j hj (fun k hk => .inr ?_) ⟨hs.size, heap_alloc_new w _⟩ hb2 (fun k hk _ => ?_)
    · simp [It.key] at hk; omega
    · exact ((Below.refl w.heap.size w).alloc (Nat.le_refl _) _).block k hk
/-- A call that turns own memory. -/
theorem Stp.callo {f : FuncId} {xs : List Operand} {ats : Array TypeId} (he : Ent f) (hr : ∀ (b : Nat → Bool) (s : Lt), b i = false → (∀ j ∈ dps ⟨some d, .call ⟨.value (.func f), xs.toArray, ats⟩, ty, pos, af, g⟩, b j = true) → ∃ (us : List Value) (v : Value) (H1 H2 : List It), (onB ops (envOf ops (fun j => nth vs j s) (dps ⟨some d, .call ⟨.value (.func f), xs.toArray, ats⟩, ty, pos, af, g⟩) ++ ρ) ⟨some d, .call ⟨.value (.func f), xs.toArray, ats⟩, ty, pos, af, g⟩ = some true) ∧
      evl (envOf ops (fun j => nth vs j s) (dps ⟨some d, .call ⟨.value (.func f), xs.toArray, ats⟩, ty, pos, af, g⟩) ++ ρ) xs = some us ∧ Hs b s = H1 ∧ (∀ w, St w0 H1 w → Calls Tryz.prog f us.toArray w (Mo w0 v H2)) ∧ v = nth vs i s ∧ Hs (up b i) s = H2) : Stp w0 n ops Q ρ vs Hs al i ⟨some d, .call ⟨.value (.func f), xs.toArray, ats⟩, ty, pos, af, g⟩ := fun b s hcl hb hd => by
  obtain ⟨us, v, H1, H2, hon, hx, h1, hc, hv, h2⟩ := hr b s hb hd
  subst h1
  refine OS.callG (cap := #[]) he rfl hon rfl hx fun w hs => ?_
  rw [Array.append_empty]
  refine (hc w hs).mono fun e w' h => ?_
  obtain ⟨rfl, hst⟩ := h
  exact ⟨v, rfl, s, .inl rfl, hv, by rw [h2]; exact hst⟩
/-- A slice literal whose elements stand in order. -/
theorem WL.row {e sz m : Nat} {z : Value} {ps : List (Nat × Operand)} {us : List Value} {cs : Array Value} (hu : Tryz.prog.underlying t = some (.slice e)) (hsz : Sized e sz) (hz : ∀ w : World, (zeroValue e).run Tryz.prog w = .ok z w) (hon : onB ops ρ ⟨some d, .buildSlice t m ps.toArray, ty, pos, af, g⟩ = some true) (hd : Nat.blt d n = true) (hx : evl ρ (ps.map (·.2)) = some us)
    (hlen : us.length = m) (his : ps.map (·.1) = List.range' 0 m) (hm : Nat.ble (m * sz) 1000 = true) (h0 : Nat.beq (m * sz) 0 = false) (h : us.all (fun v => Nat.beq v.cells.size sz) = true) (hcs : (flatC us).toArray = cs)
    (k : ∀ b, WL w0 n ops Q rest ((d, .slice (some ⟨b, 0, none⟩) m m) :: ρ) (.blk b e cs :: H)) : WL w0 n ops Q (⟨some d, .buildSlice t m ps.toArray, ty, pos, af, g⟩ :: rest) ρ H :=
  WL.buildSlice hon hd hx (fun w => run_rowL hu hsz hz hlen his hm h0 h hcs w) k
end
end Go.Proofs.YtlkkiimmangplaaGreatDoor

/- Own maps. -/
namespace Go.Proofs.YtlkkiimmangplaaGreatDoor
open Go.RowKit
set_option linter.unusedVariables false
set_option linter.unusedSimpArgs false
theorem St.map {w0 w : World} {H : List It} (h : St w0 H w) : St w0 (.map w.heap.size #[] 0 :: H) (w.alloc (.map #[] 0)) := by
  have hn : St w [.map w.heap.size #[] 0] (w.alloc (.map #[] 0)) := ⟨(Below.refl _ _).alloc (Nat.le_refl _) _, fun i x hi => by
    cases i with
    | zero => simp at hi; subst hi; exact ⟨Nat.le_refl _, heap_alloc_new w _⟩
    | succ i => simp at hi, fun i j x y hx hy hij => by cases i <;> cases j <;> simp_all⟩
  exact h.call hn
theorem St.mapSet {w0 w : World} {H : List It} (h : St w0 H w) (j : Nat) {r c c' : Nat} {es es' : Array MapEntry} (hj : H[j]? = some (.map r es c)) : St w0 (H.set j (.map r es' c')) { w with heap := w.heap.setIfInBounds r (.map es' c') } := by
  have hb := h.ok j _ hj
  have hlt := lt_of_heap hb.2
  refine h.swap j hj (fun k hk => .inl hk) ⟨hb.1, by simp [hlt]⟩ ?_ (fun k _ hk => ?_)
  · refine h.below.trans ⟨rfl, rfl, rfl, by simp, fun k hk => ?_⟩
    have : r ≠ k := by have := hb.1; omega
    simp [Array.getElem?_setIfInBounds_ne this]
  · have : r ≠ k := fun e => hk (by rw [e]; rfl)
    simp [Array.getElem?_setIfInBounds_ne this]
section
variable {w0 : World} {n : Nat} {ops : Array Oper} {Q : Exit → Act → World → Prop} {o : Oper} {rest : List Oper} {ρ : Env} {H : List It}
variable {d : Nat} {ty t t' : TypeId} {pos : String} {af : Array Edge} {g : Option (Nat × Bool)} {x y z : Operand} {v u : Value}
theorem WL.makeMap (hon : onB ops ρ ⟨some d, .makeMap t none, ty, pos, af, g⟩ = some true) (hd : Nat.blt d n = true) (k : ∀ b, WL w0 n ops Q rest ((d, .map (some b)) :: ρ) (.map b #[] 0 :: H)) :
    WL w0 n ops Q (⟨some d, .makeMap t none, ty, pos, af, g⟩ :: rest) ρ H :=
  WL.valx (S := fun _ => True) (v := fun b => .map (some b)) (H' := fun b => .map b #[] 0 :: H) hon rfl hd (fun a w hf hs => ⟨w.heap.size, _, trivial, by simp [execOp, run_makeMap_plain], hs.map⟩) (fun b _ => k b)
/-- A new key. -/
theorem WL.insert (j : Nat) {kt et : TypeId} {kd : TypeDesc} {b c : Nat} {es : Array MapEntry} {key : Value} (hm : Tryz.prog.underlying t = some (.map kt et)) (hk : Tryz.prog.underlying kt = some kd) (hkey : MapKept.IsKey kd key) (hon : onB ops ρ ⟨none, .insert t x y z, ty, pos, af, g⟩ = some true) (hx : ev ρ x = some (.map (some b))) (hy : ev ρ y = some key) (hz : ev ρ z = some v)
    (hj : H[j]? = some (.map b es c)) (hf : Instr.findNow kd key es.toList 0 = some none) (k : WL w0 n ops Q rest ρ (H.set j (.map b (es.push { key := key, val := v, born := c }) (c + 1)))) : WL w0 n ops Q (⟨none, .insert t x y z, ty, pos, af, g⟩ :: rest) ρ H :=
  WL.skip_ hon rfl (fun a w hfit hs => by
    have hb := (hs.ok j _ hj).2
    have hc : (Instr.checkKey false 10000 kt key).run Tryz.prog w = .ok () w := MapKept.run_checkKey (k := key) hk hkey false 9999
    exact ⟨_, by simp [execOp, hfit.eval hx, hfit.eval hy, hfit.eval hz, Instr.mapUpdate, run_underlying hm, MapKept.run_getObj_map hb, hc, MapKept.run_findKey hk hf, MapKept.run_setObj_map _ hb, Result.andThen], hs.mapSet j hj⟩) k
/-- A look with two results. -/
theorem P.lookup2 (j : Nat) {kt et : TypeId} {kd : TypeDesc} {b c i : Nat} {es : Array MapEntry} {key : Value} (hm : Tryz.prog.underlying t = some (.map kt et)) (hk : Tryz.prog.underlying kt = some kd) (hkey : MapKept.IsKey kd key) (hx : ev ρ x = some (.map (some b))) (hy : ev ρ y = some key) (hj : H[j]? = some (.map b es c))
    (hf : Instr.findNow kd key es.toList 0 = some (some (i, v))) : Pure w0 n ρ H ⟨some d, .lookup t x y true, ty, pos, af, g⟩ (.tuple #[v, .bool true]) :=
  fun a w hfit hs => by
    have hb := (hs.ok j _ hj).2
    have hc : ∀ e, (Instr.checkKey e 10000 kt key).run Tryz.prog w = .ok () w := fun e => MapKept.run_checkKey (k := key) hk hkey e 9999
    simp [execOp, hfit.eval hx, hfit.eval hy, Instr.lookup, run_underlying hm, MapKept.run_getObj_map hb, hc, MapKept.run_findKey hk hf, Result.andThen]
theorem P.lookup2n (j : Nat) {kt et : TypeId} {kd : TypeDesc} {b c : Nat} {es : Array MapEntry} {key zv : Value} (hm : Tryz.prog.underlying t = some (.map kt et)) (hk : Tryz.prog.underlying kt = some kd) (hkey : MapKept.IsKey kd key) (hz : ∀ w : World, (zeroValue et).run Tryz.prog w = .ok zv w) (hx : ev ρ x = some (.map (some b))) (hy : ev ρ y = some key) (hj : H[j]? = some (.map b es c))
    (hf : Instr.findNow kd key es.toList 0 = some none) : Pure w0 n ρ H ⟨some d, .lookup t x y true, ty, pos, af, g⟩ (.tuple #[zv, .bool false]) :=
  fun a w hfit hs => by
    have hb := (hs.ok j _ hj).2
    have hc : ∀ e, (Instr.checkKey e 10000 kt key).run Tryz.prog w = .ok () w := fun e => MapKept.run_checkKey (k := key) hk hkey e 9999
    simp [execOp, hfit.eval hx, hfit.eval hy, Instr.lookup, run_underlying hm, MapKept.run_getObj_map hb, hc, MapKept.run_findKey hk hf, Result.andThen, hz w]
variable {vs : List (Lt → Value)} {Hs : (Nat → Bool) → Lt → List It} {al : List Nat} {i : Nat}
def onl (ks : List Nat) (b : Nat → Bool) : Nat → Bool := fun k => bif ks.any (fun x => Nat.beq x k) then true else b k
/-- What stands in front has been done. -/
theorem Stp.on (ks : List Nat) (hks : ks.all (fun k => (dps o).any (fun x => Nat.beq x k)) = true) (h : Stp w0 n ops Q ρ vs (fun b s => Hs (onl ks b) s) al i o) : Stp w0 n ops Q ρ vs Hs al i o := fun b s hcl hb hd => by
  have key : ∀ c : Nat → Bool, (∀ k ∈ ks, c k = true) → onl ks c = c := by
    intro c hc
    funext k
    unfold onl
    cases hq : ks.any (fun x => Nat.beq x k) with
    | false => rfl
    | true =>
      obtain ⟨x, hx, hxk⟩ := List.any_eq_true.1 hq
      rw [← Nat.eq_of_beq_eq_true hxk, hc x hx]; rfl
  have h1 : ∀ k ∈ ks, b k = true := by
    intro k hk
    obtain ⟨x, hx, hxk⟩ := List.any_eq_true.1 (List.all_eq_true.1 hks k hk)
    rw [← Nat.eq_of_beq_eq_true hxk]
    exact hd x hx
  have h2 : ∀ k ∈ ks, up b i k = true := by
    intro k hk
    unfold up
    rw [h1 k hk]
    cases Nat.beq k i <;> rfl
  have := h b s hcl hb hd
  simp only [key b h1, key (up b i) h2] at this
  exact this
end
end Go.Proofs.YtlkkiimmangplaaGreatDoor

/- append. -/
namespace Go.Proofs.YtlkkiimmangplaaGreatDoor
open Go.RowKit
set_option linter.unusedVariables false
set_option linter.unusedSimpArgs false

/-- What append asks of an element's type. -/
structure ElT (t e size bytes : Nat) (z : Value) : Prop where
  ht : Tryz.prog.underlying t = some (.slice e)
  hi : ∃ i, Tryz.prog.info? e = some i ∧ i.zero = some z ∧ i.size = size ∧ i.bytes = bytes
  hzs : z.cells.size = size
  hsz : 0 < size
theorem ElT.of {t e size bytes : Nat} {z : Value} (ht : Tryz.prog.underlying t = some (.slice e)) (h : ((Tryz.prog.info? e).map fun i => (i.zero, i.size, i.bytes)) = some (some z, size, bytes)) (hzs : z.cells.size = size) (hsz : 0 < size) : ElT t e size bytes z := by
  refine ⟨ht, ?_, hzs, hsz⟩
  cases hi : Tryz.prog.info? e with
  | none => rw [hi] at h; cases h
  | some i =>
    rw [hi] at h
    simp at h
    exact ⟨i, rfl, h.1, h.2.1, h.2.2⟩
theorem el22 : ElT 22 3 1 8 (.int .i64 0) := ElT.of Tryz.underlying22 (by kernel_rfl) rfl (by decide)

/-- append to an own row: it stays where it was, or a new one comes. -/
theorem append_own {w0 w : World} {H : List It} {t e size bytes ty : Nat} {z : Value} (hel : ElT t e size bytes z) (hs : St w0 H w) (j : Nat) {v : Value} {n : Nat} {xs : List Value} (hj : H[j]? = some (.row e size v n xs))
    (a : Addr) (m c : Nat) (news : List Value) (hl : news.length = m * size) (hnews : ∀ j u, news[j]? = some u → w.cell? (a.add j) = some u) (h1 : ∀ u ∈ news, u.oneCell' = true)
    (h63 : n + m ≤ maxLen) (hbytes : (n + m) * bytes ≤ 140737488355328) :
    ∃ v' w', (Builtin.append_ #[t, t] ty #[v, .slice (some a) m c]).run Tryz.prog w = .ok v' w' ∧ St w0 (H.set j (.row e size v' (n + m) (xs ++ news))) w' ∧ (v' = .slice none 0 0 ↔ v = .slice none 0 0 ∧ m = 0) := by
  obtain ⟨i, hi, hz, hsize, hby⟩ := hel.hi
  have hown := hs.ok j _ hj
  have hown' : w.ownsRow w0.heap.size e size v n xs := hown
  rcases hown.2 with ⟨rfl, rfl⟩ | ⟨g, cap, cur, rfl, hb, hg, hcap, hmax, hcs, htake⟩
  · have hx : xs = [] := by
      have := hown'.1
      simpa using this
    subst hx
    obtain ⟨v', w', h2, h3, h4, h5⟩ := run_append_own (P := Tryz.prog) w w.heap.size t ty e i z size bytes hel.ht hi hz hsize hby hel.hzs hel.hsz (.slice none 0 0) 0 [] (World.ownsRow_nil w w.heap.size e size) a m c news hl hnews h1 h63 hbytes (Nat.le_refl _)
    refine ⟨v', w', h2, ?_, h5⟩
    have hb2 : Below w.heap.size w w' := ⟨h4.os, h4.tape, h4.output, h4.size, fun k hk => h4.block k hk (by simp [Value.ownBlock])⟩
    refine hs.swap j hj (fun k hk => .inr (h3.lt k hk).1) ?_ (hs.below.trans (hb2.mono hs.size)) (fun k hk _ => hb2.block k hk)
    exact It.lower (i := .row e size v' (0 + m) ([] ++ news)) h3 hs.size
  · by_cases hroom : n + m ≤ cap
    · have hfit : n * size + news.length ≤ cur.size := by
        rw [hl, hcs, ← Nat.add_mul]; exact Nat.mul_le_mul_right _ hroom
      subst hsize
      have h2 := run_append_room (P := Tryz.prog) w t ty e i hel.ht hi g n cap cur hg a m c news hl hnews h1 hroom hfit
      refine ⟨_, _, h2, ?_, by simp⟩
      refine hs.swap j hj (fun k hk => .inl (by simpa [It.key, Value.ownBlock] using hk)) ?_ (below_setRow hs.below hb _) (fun k _ hk => setRow_other w g k _ (fun e => hk (by simp [It.key, Value.ownBlock, e])))
      refine ⟨by rw [List.length_append, hown'.1, hl, Nat.add_mul], .inr ⟨g, cap, _, rfl, hb, setRow_heap w g cur _ e _ hg, hroom, hmax, ?_, ?_⟩⟩
      · have hsz := hfit
        simp only [List.size_toArray, List.length_append, List.length_take, List.length_drop, Array.length_toList]
        omega
      · have hlen : (xs ++ news).length = (n + m) * i.size := by rw [List.length_append, hown'.1, hl, Nat.add_mul]
        rw [htake, ← hlen]
        exact List.take_left
    · have hcells := hown'.cells (g := g) rfl
      obtain ⟨v', w', h2, h3, h4⟩ := run_append_arg_grows (P := Tryz.prog) w t ty e i z size bytes hel.ht hi hz hsize hby hel.hzs hel.hsz ⟨g, 0, none⟩ n cap xs hown'.1 hcells a m c news hl hnews (by omega) h63 hbytes
      refine ⟨v', w', h2, ?_, ?_⟩
      · have hb2 : Below w.heap.size w w' := ⟨h4.os, h4.tape, h4.output, h4.size, fun k hk => h4.block k hk (by simp)⟩
        refine hs.swap j hj (fun k hk => .inr (h3.lt k hk).1) ?_ (hs.below.trans (hb2.mono hs.size)) (fun k hk _ => hb2.block k hk)
        exact It.lower (i := .row e size v' (n + m) (xs ++ news)) h3 hs.size
      · constructor
        · intro e'
          subst e'
          rcases h3.2 with ⟨_, h5⟩ | ⟨g', _, _, h5, _⟩
          · omega
          · cases h5
        · rintro ⟨h5, _⟩; cases h5
section
variable {w0 : World} {n : Nat} {ops : Array Oper} {Q : Exit → Act → World → Prop} {o : Oper} {rest : List Oper} {ρ : Env} {H : List It}
variable {d : Nat} {ty t t' : TypeId} {pos : String} {af : Array Edge} {g : Option (Nat × Bool)} {x y z : Operand} {v u : Value}
variable {vs : List (Lt → Value)} {Hs : (Nat → Bool) → Lt → List It} {al : List Nat} {i : Nat}
end
end Go.Proofs.YtlkkiimmangplaaGreatDoor

/- Lists of numbers and of grants compared; numbers that fit. -/
namespace Go.Proofs.YtlkkiimmangplaaGreatDoor
open Go.RowKit
set_option linter.unusedVariables false
set_option linter.unusedSimpArgs false

def fitsFrom : Int → List Int → Option Int
  | b, [] => some b
  | b, x :: xs => if x ≤ b then none else fitsFrom x xs
def fits (l : List Int) (last : Int) : Bool := match fitsFrom 0 l with | none => false | some b => decide (b ≤ last)
set_option maxRecDepth 100000 in
theorem eqInts_any (A A' : Option Addr) (c c' : Nat) (xs ys : List Int) (w : World) (hr : Sl encI 1 w A xs) (hr' : Sl encI 1 w A' ys) :
    Calls Tryz.prog 94 #[.slice A xs.length c, .slice A' ys.length c'] w (RetV w (.bool (decide (xs = ys)))) := by
  have hl := hr.1
  have hl' := hr'.1
  refine enter Tryz.func94 rfl Tryz.ntmps94 rfl ?_
  refine WC.seq ?_
  refine WC.region ?_
  refine WL.p rfl rfl rfl (P.assign rfl) ?_
  refine WL.nil_ ?_
  refine End.seq ?_
  refine WC.seq ?_
  refine WC.seq ?_
  refine WC.region ?_
  refine WL.p rfl rfl rfl (P.move rfl) ?_
  refine WL.p rfl rfl rfl (P.lenR Tryz.underlying22 rfl) ?_
  refine WL.p rfl rfl rfl (P.move rfl) ?_
  refine WL.p rfl rfl rfl (P.lenR Tryz.underlying22 rfl) ?_
  refine WL.p rfl rfl rfl (P.cmp rfl rfl rfl) ?_
  refine WL.nil_ ?_
  refine End.seq ?_
  refine WC.cond rfl (fun hc10 => ?_) (fun hc10 => ?_)
  ·
    try simp only [decide_eq_true_eq, decide_eq_false_iff_not, beq_iff_eq, beq_eq_false_iff_ne, bne_iff_ne, bne_eq_false_iff_eq, Bool.not_eq_true', Bool.not_eq_false', ne_eq, Int.not_lt, Int.not_le] at hc10
    refine WC.seq ?_
    refine WC.region ?_
    refine WL.p rfl rfl rfl (P.assign rfl) ?_
    refine WL.nil_ ?_
    refine End.seq ?_
    refine WC.ret ?_
    refine End.thenR ?_
    refine End.ret1 rfl rfl ?_
    exact fun w' hs' => RetV.of (by rw [decide_eq_false (fun e => hc10 (by rw [e]))]) hs'
  ·
    try simp only [decide_eq_true_eq, decide_eq_false_iff_not, beq_iff_eq, beq_eq_false_iff_ne, bne_iff_ne, bne_eq_false_iff_eq, Bool.not_eq_true', Bool.not_eq_false', ne_eq, Int.not_lt, Int.not_le] at hc10
    refine WC.skip ?_
    refine End.seq ?_
    refine WC.seq ?_
    refine WC.seq ?_
    refine WC.region ?_
    refine WL.p rfl rfl rfl (P.move rfl) ?_
    refine WL.p rfl rfl rfl (P.lenR Tryz.underlying22 rfl) ?_
    refine WL.p rfl rfl rfl (P.move rfl) ?_
    refine WL.nil_ ?_
    refine End.seq ?_
    refine WC.block ?_
    refine WC.loopD (σ := Nat) (fun k => [(13, .int .i64 k)]) (fun k => []) (fun k => k ≤ xs.length ∧ xs.take k = ys.take k) (fun k => xs.length - k) 0 ⟨Nat.zero_le _, rfl⟩ (Env.sub_cons rfl (Env.sub_nil)) [] rfl rfl ?_
    rintro k ⟨hk, ht⟩
    refine WC.seq ?_
    refine WC.region ?_
    refine WL.p rfl rfl rfl (P.cmp rfl rfl rfl) ?_
    refine WL.nil_ ?_
    refine End.seq ?_
    refine WC.seq ?_
    refine WC.cond rfl (fun hc14 => ?_) (fun hc14 => ?_)
    ·
      try simp only [decide_eq_true_eq, decide_eq_false_iff_not, beq_iff_eq, beq_eq_false_iff_ne, bne_iff_ne, bne_eq_false_iff_eq, Bool.not_eq_true', Bool.not_eq_false', ne_eq, Int.not_lt, Int.not_le] at hc14
      obtain ⟨b, off, rfl, hcx⟩ := hr.at_ (by omega)
      obtain ⟨b', off', rfl, hcy⟩ := hr'.at_ (by omega)
      obtain ⟨x, hx⟩ := get_of_lt (xs := xs) (k := k) (by omega)
      obtain ⟨y, hy⟩ := get_of_lt (xs := ys) (k := k) (by omega)
      refine WC.skip ?_
      refine End.seq ?_
      refine WC.seq ?_
      refine WC.block ?_
      refine WC.seq ?_
      refine WC.region ?_
      refine WL.p rfl rfl rfl (P.move rfl) ?_
      refine WL.p rfl rfl rfl (P.assign rfl) ?_
      refine WL.nil_ ?_
      refine End.seq ?_
      refine WC.seq ?_
      refine WC.quiet (by kernel_rfl) ?_
      refine WQ.p rfl rfl rfl (P.move rfl) ?_
      refine WQ.p rfl rfl rfl (P.move rfl) ?_
      refine WQ.p rfl rfl rfl (P.elemAddr Tryz.underlying22 Tryz.sizeOf3 rfl rfl (by omega) (by omega)) ?_
      refine WQ.p rfl rfl rfl (P.loadB Tryz.isAgg3 rfl (hcx k x hx 0 _ rfl)) ?_
      refine WQ.p rfl rfl rfl (P.move rfl) ?_
      refine WQ.p rfl rfl rfl (P.move rfl) ?_
      refine WQ.p rfl rfl rfl (P.elemAddr Tryz.underlying22 Tryz.sizeOf3 rfl rfl (by omega) (by omega)) ?_
      refine WQ.p rfl rfl rfl (P.loadB Tryz.isAgg3 rfl (hcy k y hy 0 _ rfl)) ?_
      refine WQ.p rfl rfl rfl (P.cmp rfl rfl rfl) ?_
      refine WQ.nil_ ?_
      refine End.seq ?_
      refine WC.cond rfl (fun hc24 => ?_) (fun hc24 => ?_)
      ·
        try simp only [decide_eq_true_eq, decide_eq_false_iff_not, beq_iff_eq, beq_eq_false_iff_ne, bne_iff_ne, bne_eq_false_iff_eq, Bool.not_eq_true', Bool.not_eq_false', ne_eq, Int.not_lt, Int.not_le] at hc24
        refine WC.seq ?_
        refine WC.region ?_
        refine WL.p rfl rfl rfl (P.assign rfl) ?_
        refine WL.nil_ ?_
        refine End.seq ?_
        refine WC.ret ?_
        refine End.blkR ?_
        refine End.thenR ?_
        refine End.thenR ?_
        refine End.blkR ?_
        refine End.thenR ?_
        refine End.ret1 rfl rfl ?_
        exact fun w' hs' => RetV.of (by rw [decide_eq_false (fun e => hc24 (by rw [e, hy] at hx; exact (Option.some.inj hx).symm))]) hs'
      ·
        try simp only [decide_eq_true_eq, decide_eq_false_iff_not, beq_iff_eq, beq_eq_false_iff_ne, bne_iff_ne, bne_eq_false_iff_eq, Bool.not_eq_true', Bool.not_eq_false', ne_eq, Int.not_lt, Int.not_le] at hc24
        refine WC.skip ?_
        refine End.blkN ?_
        refine End.seq ?_
        refine WC.region ?_
        refine WL.p rfl rfl rfl (P.ari64 rfl rfl rfl (by omega)) ?_
        refine WL.p rfl rfl rfl (P.move rfl) ?_
        refine WL.nil_ ?_
        refine End.againD (k + 1) ?_ ?_ rfl (Env.sub_cons rfl (Env.sub_nil)) rfl [] rfl rfl
        · exact ⟨by omega, by rw [take_snoc hx, take_snoc hy, ht, hc24]⟩
        · omega
    ·
      try simp only [decide_eq_true_eq, decide_eq_false_iff_not, beq_iff_eq, beq_eq_false_iff_ne, bne_iff_ne, bne_eq_false_iff_eq, Bool.not_eq_true', Bool.not_eq_false', ne_eq, Int.not_lt, Int.not_le] at hc14
      refine WC.exit ?_
      refine End.thenX ?_
      refine End.thenX ?_
      refine End.blkX ?_
      refine End.seq ?_
      refine WC.seq ?_
      refine WC.region ?_
      refine WL.p rfl rfl rfl (P.assign rfl) ?_
      refine WL.nil_ ?_
      refine End.seq ?_
      refine WC.ret ?_
      refine End.ret1 rfl rfl ?_
      have e : k = xs.length := by omega
      rw [List.take_of_length_le (by omega), List.take_of_length_le (by omega)] at ht
      exact fun w' hs' => RetV.of (by rw [decide_eq_true ht]) hs'

set_option maxRecDepth 100000 in
theorem eqGrs_any (A A' : Option Addr) (c c' : Nat) (xs ys : List Gr) (w : World) (hr : Sl Gr.cells 3 w A xs) (hr' : Sl Gr.cells 3 w A' ys) :
    Calls Tryz.prog 95 #[.slice A xs.length c, .slice A' ys.length c'] w (RetV w (.bool (decide (xs = ys)))) := by
  have hl := hr.1
  have hl' := hr'.1
  refine enter Tryz.func95 rfl Tryz.ntmps95 rfl ?_
  refine WC.seq ?_
  refine WC.region ?_
  refine WL.p rfl rfl rfl (P.assign rfl) ?_
  refine WL.nil_ ?_
  refine End.seq ?_
  refine WC.seq ?_
  refine WC.seq ?_
  refine WC.region ?_
  refine WL.p rfl rfl rfl (P.move rfl) ?_
  refine WL.p rfl rfl rfl (P.lenR Tryz.underlying32 rfl) ?_
  refine WL.p rfl rfl rfl (P.move rfl) ?_
  refine WL.p rfl rfl rfl (P.lenR Tryz.underlying32 rfl) ?_
  refine WL.p rfl rfl rfl (P.cmp rfl rfl rfl) ?_
  refine WL.nil_ ?_
  refine End.seq ?_
  refine WC.cond rfl (fun hc10 => ?_) (fun hc10 => ?_)
  ·
    try simp only [decide_eq_true_eq, decide_eq_false_iff_not, beq_iff_eq, beq_eq_false_iff_ne, bne_iff_ne, bne_eq_false_iff_eq, Bool.not_eq_true', Bool.not_eq_false', ne_eq, Int.not_lt, Int.not_le] at hc10
    refine WC.seq ?_
    refine WC.region ?_
    refine WL.p rfl rfl rfl (P.assign rfl) ?_
    refine WL.nil_ ?_
    refine End.seq ?_
    refine WC.ret ?_
    refine End.thenR ?_
    refine End.ret1 rfl rfl ?_
    exact fun w' hs' => RetV.of (by rw [decide_eq_false (fun e => hc10 (by rw [e]))]) hs'
  ·
    try simp only [decide_eq_true_eq, decide_eq_false_iff_not, beq_iff_eq, beq_eq_false_iff_ne, bne_iff_ne, bne_eq_false_iff_eq, Bool.not_eq_true', Bool.not_eq_false', ne_eq, Int.not_lt, Int.not_le] at hc10
    refine WC.skip ?_
    refine End.seq ?_
    refine WC.seq ?_
    refine WC.seq ?_
    refine WC.region ?_
    refine WL.p rfl rfl rfl (P.move rfl) ?_
    refine WL.p rfl rfl rfl (P.lenR Tryz.underlying32 rfl) ?_
    refine WL.p rfl rfl rfl (P.move rfl) ?_
    refine WL.nil_ ?_
    refine End.seq ?_
    refine WC.block ?_
    refine WC.loopD (σ := Nat) (fun k => [(13, .int .i64 k)]) (fun k => []) (fun k => k ≤ xs.length ∧ xs.take k = ys.take k) (fun k => xs.length - k) 0 ⟨Nat.zero_le _, rfl⟩ (Env.sub_cons rfl (Env.sub_nil)) [] rfl rfl ?_
    rintro k ⟨hk, ht⟩
    refine WC.seq ?_
    refine WC.region ?_
    refine WL.p rfl rfl rfl (P.cmp rfl rfl rfl) ?_
    refine WL.nil_ ?_
    refine End.seq ?_
    refine WC.seq ?_
    refine WC.cond rfl (fun hc14 => ?_) (fun hc14 => ?_)
    ·
      try simp only [decide_eq_true_eq, decide_eq_false_iff_not, beq_iff_eq, beq_eq_false_iff_ne, bne_iff_ne, bne_eq_false_iff_eq, Bool.not_eq_true', Bool.not_eq_false', ne_eq, Int.not_lt, Int.not_le] at hc14
      obtain ⟨b, off, rfl, hcx⟩ := hr.at_ (by omega)
      obtain ⟨b', off', rfl, hcy⟩ := hr'.at_ (by omega)
      obtain ⟨x, hx⟩ := get_of_lt (xs := xs) (k := k) (by omega)
      obtain ⟨y, hy⟩ := get_of_lt (xs := ys) (k := k) (by omega)
      refine WC.skip ?_
      refine End.seq ?_
      refine WC.seq ?_
      refine WC.block ?_
      refine WC.seq ?_
      refine WC.region ?_
      refine WL.p rfl rfl rfl (P.move rfl) ?_
      refine WL.p rfl rfl rfl (P.assign rfl) ?_
      refine WL.nil_ ?_
      refine End.seq ?_
      refine WC.seq ?_
      refine WC.quiet (by kernel_rfl) ?_
      refine WQ.p rfl rfl rfl (P.move rfl) ?_
      refine WQ.p rfl rfl rfl (P.move rfl) ?_
      refine WQ.p rfl rfl rfl (P.elemAddr Tryz.underlying32 Tryz.sizeOf51 rfl rfl (by omega) (by omega)) ?_
      refine WQ.p rfl rfl rfl (P.loadBA (vs := (Gr.cells x).toArray) Tryz.isAgg51 Tryz.sizeOf51 rfl rfl (fun j v hv => hcx k x hx j v (by simpa [Gr.cells] using hv))) ?_
      refine WQ.p rfl rfl rfl (P.move rfl) ?_
      refine WQ.p rfl rfl rfl (P.move rfl) ?_
      refine WQ.p rfl rfl rfl (P.elemAddr Tryz.underlying32 Tryz.sizeOf51 rfl rfl (by omega) (by omega)) ?_
      refine WQ.p rfl rfl rfl (P.loadBA (vs := (Gr.cells y).toArray) Tryz.isAgg51 Tryz.sizeOf51 rfl rfl (fun j v hv => hcy k y hy j v (by simpa [Gr.cells] using hv))) ?_
      refine WQ.p rfl rfl rfl (P.neAgg egt51 rfl rfl (fun w => eq51 _ _ w)) ?_
      refine WQ.nil_ ?_
      refine End.seq ?_
      refine WC.cond rfl (fun hc24 => ?_) (fun hc24 => ?_)
      ·
        try simp only [decide_eq_true_eq, decide_eq_false_iff_not, beq_iff_eq, beq_eq_false_iff_ne, bne_iff_ne, bne_eq_false_iff_eq, Bool.not_eq_true', Bool.not_eq_false', ne_eq, Int.not_lt, Int.not_le] at hc24
        refine WC.seq ?_
        refine WC.region ?_
        refine WL.p rfl rfl rfl (P.assign rfl) ?_
        refine WL.nil_ ?_
        refine End.seq ?_
        refine WC.ret ?_
        refine End.blkR ?_
        refine End.thenR ?_
        refine End.thenR ?_
        refine End.blkR ?_
        refine End.thenR ?_
        refine End.ret1 rfl rfl ?_
        exact fun w' hs' => RetV.of (by rw [decide_eq_false (fun e => hc24 (by rw [e, hy] at hx; exact (Option.some.inj hx).symm))]) hs'
      ·
        try simp only [decide_eq_true_eq, decide_eq_false_iff_not, beq_iff_eq, beq_eq_false_iff_ne, bne_iff_ne, bne_eq_false_iff_eq, Bool.not_eq_true', Bool.not_eq_false', ne_eq, Int.not_lt, Int.not_le] at hc24
        refine WC.skip ?_
        refine End.blkN ?_
        refine End.seq ?_
        refine WC.region ?_
        refine WL.p rfl rfl rfl (P.ari64 rfl rfl rfl (by omega)) ?_
        refine WL.p rfl rfl rfl (P.move rfl) ?_
        refine WL.nil_ ?_
        refine End.againD (k + 1) ?_ ?_ rfl (Env.sub_cons rfl (Env.sub_nil)) rfl [] rfl rfl
        · exact ⟨by omega, by rw [take_snoc hx, take_snoc hy, ht, hc24]⟩
        · omega
    ·
      try simp only [decide_eq_true_eq, decide_eq_false_iff_not, beq_iff_eq, beq_eq_false_iff_ne, bne_iff_ne, bne_eq_false_iff_eq, Bool.not_eq_true', Bool.not_eq_false', ne_eq, Int.not_lt, Int.not_le] at hc14
      refine WC.exit ?_
      refine End.thenX ?_
      refine End.thenX ?_
      refine End.blkX ?_
      refine End.seq ?_
      refine WC.seq ?_
      refine WC.region ?_
      refine WL.p rfl rfl rfl (P.assign rfl) ?_
      refine WL.nil_ ?_
      refine End.seq ?_
      refine WC.ret ?_
      refine End.ret1 rfl rfl ?_
      have e : k = xs.length := by omega
      rw [List.take_of_length_le (by omega), List.take_of_length_le (by omega)] at ht
      exact fun w' hs' => RetV.of (by rw [decide_eq_true ht]) hs'

set_option maxRecDepth 100000 in
theorem ints_any (A A' : Option Addr) (c c' : Nat) (xs ys : List Int) (w : World) (hr : Sl encI 1 w A xs) (hr' : Sl encI 1 w A' ys) :
    Calls Tryz.prog 33 #[.slice A xs.length c, .slice A' ys.length c'] w (RetV w (.bool (decide (xs = ys)))) := by
  have hl := hr.1
  have hl' := hr'.1
  refine enter Tryz.func33 rfl Tryz.ntmps33 rfl ?_
  refine WC.seq ?_
  refine WC.region ?_
  refine WL.p rfl rfl rfl (P.assign rfl) ?_
  refine WL.nil_ ?_
  refine End.seq ?_
  refine WC.seq ?_
  refine WC.seq ?_
  refine WC.region ?_
  refine WL.p rfl rfl rfl (P.move rfl) ?_
  refine WL.p rfl rfl rfl (P.lenR Tryz.underlying22 rfl) ?_
  refine WL.p rfl rfl rfl (P.move rfl) ?_
  refine WL.p rfl rfl rfl (P.lenR Tryz.underlying22 rfl) ?_
  refine WL.p rfl rfl rfl (P.cmp rfl rfl rfl) ?_
  refine WL.nil_ ?_
  refine End.seq ?_
  refine WC.cond rfl (fun hc10 => ?_) (fun hc10 => ?_)
  ·
    try simp only [decide_eq_true_eq, decide_eq_false_iff_not, beq_iff_eq, beq_eq_false_iff_ne, bne_iff_ne, bne_eq_false_iff_eq, Bool.not_eq_true', Bool.not_eq_false', ne_eq, Int.not_lt, Int.not_le] at hc10
    refine WC.seq ?_
    refine WC.region ?_
    refine WL.p rfl rfl rfl (P.assign rfl) ?_
    refine WL.nil_ ?_
    refine End.seq ?_
    refine WC.ret ?_
    refine End.thenR ?_
    refine End.ret1 rfl rfl ?_
    exact fun w' hs' => RetV.of (by rw [decide_eq_false (fun e => hc10 (by rw [e]))]) hs'
  ·
    try simp only [decide_eq_true_eq, decide_eq_false_iff_not, beq_iff_eq, beq_eq_false_iff_ne, bne_iff_ne, bne_eq_false_iff_eq, Bool.not_eq_true', Bool.not_eq_false', ne_eq, Int.not_lt, Int.not_le] at hc10
    refine WC.skip ?_
    refine End.seq ?_
    refine WC.seq ?_
    refine WC.seq ?_
    refine WC.region ?_
    refine WL.p rfl rfl rfl (P.assign rfl) ?_
    refine WL.nil_ ?_
    refine End.seq ?_
    refine WC.block ?_
    refine WC.loopD (σ := Nat) (fun k => [(5, .int .i64 k)]) (fun k => []) (fun k => k ≤ xs.length ∧ xs.take k = ys.take k) (fun k => xs.length - k) 0 ⟨Nat.zero_le _, rfl⟩ (Env.sub_cons rfl (Env.sub_nil)) [] rfl rfl ?_
    rintro k ⟨hk, ht⟩
    refine WC.seq ?_
    refine WC.seq ?_
    refine WC.region ?_
    refine WL.p rfl rfl rfl (P.move rfl) ?_
    refine WL.p rfl rfl rfl (P.move rfl) ?_
    refine WL.p rfl rfl rfl (P.lenR Tryz.underlying22 rfl) ?_
    refine WL.p rfl rfl rfl (P.cmp rfl rfl rfl) ?_
    refine WL.nil_ ?_
    refine End.seq ?_
    refine WC.cond rfl (fun hc14 => ?_) (fun hc14 => ?_)
    ·
      try simp only [decide_eq_true_eq, decide_eq_false_iff_not, beq_iff_eq, beq_eq_false_iff_ne, bne_iff_ne, bne_eq_false_iff_eq, Bool.not_eq_true', Bool.not_eq_false', ne_eq, Int.not_lt, Int.not_le] at hc14
      obtain ⟨b, off, rfl, hcx⟩ := hr.at_ (by omega)
      obtain ⟨b', off', rfl, hcy⟩ := hr'.at_ (by omega)
      obtain ⟨x, hx⟩ := get_of_lt (xs := xs) (k := k) (by omega)
      obtain ⟨y, hy⟩ := get_of_lt (xs := ys) (k := k) (by omega)
      refine WC.skip ?_
      refine End.seq ?_
      refine WC.seq ?_
      refine WC.block ?_
      refine WC.seq ?_
      refine WC.quiet (by kernel_rfl) ?_
      refine WQ.p rfl rfl rfl (P.move rfl) ?_
      refine WQ.p rfl rfl rfl (P.move rfl) ?_
      refine WQ.p rfl rfl rfl (P.elemAddr Tryz.underlying22 Tryz.sizeOf3 rfl rfl (by omega) (by omega)) ?_
      refine WQ.p rfl rfl rfl (P.loadB Tryz.isAgg3 rfl (hcx k x hx 0 _ rfl)) ?_
      refine WQ.p rfl rfl rfl (P.move rfl) ?_
      refine WQ.p rfl rfl rfl (P.move rfl) ?_
      refine WQ.p rfl rfl rfl (P.elemAddr Tryz.underlying22 Tryz.sizeOf3 rfl rfl (by omega) (by omega)) ?_
      refine WQ.p rfl rfl rfl (P.loadB Tryz.isAgg3 rfl (hcy k y hy 0 _ rfl)) ?_
      refine WQ.p rfl rfl rfl (P.cmp rfl rfl rfl) ?_
      refine WQ.nil_ ?_
      refine End.seq ?_
      refine WC.cond rfl (fun hc25 => ?_) (fun hc25 => ?_)
      ·
        try simp only [decide_eq_true_eq, decide_eq_false_iff_not, beq_iff_eq, beq_eq_false_iff_ne, bne_iff_ne, bne_eq_false_iff_eq, Bool.not_eq_true', Bool.not_eq_false', ne_eq, Int.not_lt, Int.not_le] at hc25
        refine WC.seq ?_
        refine WC.region ?_
        refine WL.p rfl rfl rfl (P.assign rfl) ?_
        refine WL.nil_ ?_
        refine End.seq ?_
        refine WC.ret ?_
        refine End.blkR ?_
        refine End.thenR ?_
        refine End.thenR ?_
        refine End.blkR ?_
        refine End.thenR ?_
        refine End.ret1 rfl rfl ?_
        exact fun w' hs' => RetV.of (by rw [decide_eq_false (fun e => hc25 (by rw [e, hy] at hx; exact (Option.some.inj hx).symm))]) hs'
      ·
        try simp only [decide_eq_true_eq, decide_eq_false_iff_not, beq_iff_eq, beq_eq_false_iff_ne, bne_iff_ne, bne_eq_false_iff_eq, Bool.not_eq_true', Bool.not_eq_false', ne_eq, Int.not_lt, Int.not_le] at hc25
        refine WC.skip ?_
        refine End.blkN ?_
        refine End.seq ?_
        refine WC.region ?_
        refine WL.p rfl rfl rfl (P.move rfl) ?_
        refine WL.p rfl rfl rfl (P.ari64 rfl rfl rfl (by omega)) ?_
        refine WL.p rfl rfl rfl (P.assign rfl) ?_
        refine WL.nil_ ?_
        refine End.againD (k + 1) ?_ ?_ rfl (Env.sub_cons rfl (Env.sub_nil)) rfl [] rfl rfl
        · exact ⟨by omega, by rw [take_snoc hx, take_snoc hy, ht, hc25]⟩
        · omega
    ·
      try simp only [decide_eq_true_eq, decide_eq_false_iff_not, beq_iff_eq, beq_eq_false_iff_ne, bne_iff_ne, bne_eq_false_iff_eq, Bool.not_eq_true', Bool.not_eq_false', ne_eq, Int.not_lt, Int.not_le] at hc14
      refine WC.exit ?_
      refine End.thenX ?_
      refine End.thenX ?_
      refine End.blkX ?_
      refine End.seq ?_
      refine WC.seq ?_
      refine WC.region ?_
      refine WL.p rfl rfl rfl (P.assign rfl) ?_
      refine WL.nil_ ?_
      refine End.seq ?_
      refine WC.ret ?_
      refine End.ret1 rfl rfl ?_
      have e : k = xs.length := by omega
      rw [List.take_of_length_le (by omega), List.take_of_length_le (by omega)] at ht
      exact fun w' hs' => RetV.of (by rw [decide_eq_true ht]) hs'

end Go.Proofs.YtlkkiimmangplaaGreatDoor
