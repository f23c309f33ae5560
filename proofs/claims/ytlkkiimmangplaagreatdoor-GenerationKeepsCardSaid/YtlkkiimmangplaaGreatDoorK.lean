/- What is read: slices that came in; a world whose library variables are as they should be. -/
import Derived.Test.YtlkkiimmangplaaGreatDoorI
import Derived.Test.YtlkkiimmangplaaGreatDoorA0
import Derived.ChangeAgain
namespace Go.Proofs.YtlkkiimmangplaaGreatDoor
open Go.RowKit
set_option linter.unusedVariables false
set_option linter.unusedSimpArgs false

/-- A slice at A that reads as xs; each element has sz cells, told by enc. -/
def Sl {α : Type} (enc : α → List Value) (sz : Nat) (w : World) (A : Option Addr) (xs : List α) : Prop :=
  xs.length ≤ 140737488351232 ∧ (0 < xs.length → ∃ b off, A = some ⟨b, off, none⟩ ∧ ∀ (k : Nat) (x : α), xs[k]? = some x → ∀ (i : Nat) (u : Value), (enc x)[i]? = some u → w.cell? ⟨b, off + (k : Int).toNat * sz + i, none⟩ = some u)

section
variable {α : Type} {enc : α → List Value} {sz : Nat} {w w' : World} {A : Option Addr} {xs : List α}
theorem Sl.at_ (h : Sl enc sz w A xs) (hp : 0 < xs.length) : ∃ b off, A = some ⟨b, off, none⟩ ∧ ∀ (k : Nat) (x : α), xs[k]? = some x → ∀ (i : Nat) (u : Value), (enc x)[i]? = some u → w.cell? ⟨b, off + (k : Int).toNat * sz + i, none⟩ = some u := h.2 hp
theorem Sl.below (h : Sl enc sz w A xs) (hb : Below w.heap.size w w') : Sl enc sz w' A xs :=
  ⟨h.1, fun hp => by
    obtain ⟨b, off, e, hc⟩ := h.2 hp
    refine ⟨b, off, e, fun k x hx i u hu => ?_⟩
    have h1 := hc k x hx i u hu
    exact (hb.cell (World.block_lt_of_cell? w _ h1)).trans h1⟩
theorem Sl.st {w0 : World} {H : List It} (h : Sl enc sz w0 A xs) (hs : St w0 H w) : Sl enc sz w A xs := h.below hs.below
theorem Sl.nil (enc : α → List Value) (sz : Nat) (w : World) : Sl enc sz w none [] := ⟨by simp, fun h => absurd h (by simp)⟩
end

abbrev encI (x : Int) : List Value := [.int .i64 x]
abbrev encS (x : ByteArray) : List Value := [.string x]
def Gr.cells (g : Gr) : List Value := [.string g.who, .bool g.group, .int .i64 g.level]

theorem get_of_lt {α : Type} {xs : List α} {k : Nat} (h : k < xs.length) : ∃ x, xs[k]? = some x := ⟨xs[k], by simp [h]⟩
theorem take_snoc {α : Type} {l : List α} {k : Nat} {x : α} (h : l[k]? = some x) : l.take (k + 1) = l.take k ++ [x] := by
  rw [List.take_add_one, h]; rfl

structure Good (w : World) : Prop where
  shaped : w.ShapedOpen Tryz.prog
theorem Good.below {w w' : World} (h : Good w) (hb : Below w.heap.size w w') : Good w' := ⟨h.shaped.keptBut (hb.frame (fun _ => False)) (fun _ h => h.elim)⟩
theorem Good.st {w0 w : World} {H : List It} (h : Good w0) (hs : St w0 H w) : Good w := h.below hs.below

/-- An entry that came in: its two slices are read. -/
structure EntAt (w : World) (e : E) (va vg : Value) : Prop where
  alt : ∃ A c, va = .slice A e.alt.length c ∧ e.alt.length ≤ c ∧ Sl encI 1 w A e.alt
  gr : ∃ A c, vg = .slice A e.grants.length c ∧ e.grants.length ≤ c ∧ Sl Gr.cells 3 w A e.grants
theorem EntAt.below {w w' : World} {e : E} {va vg : Value} (h : EntAt w e va vg) (hb : Below w.heap.size w w') : EntAt w' e va vg := by
  obtain ⟨⟨A, c, h1, h2, h3⟩, ⟨A', c', h4, h5, h6⟩⟩ := h
  exact ⟨⟨A, c, h1, h2, h3.below hb⟩, ⟨A', c', h4, h5, h6.below hb⟩⟩
theorem EntAt.st {w0 w : World} {H : List It} {e : E} {va vg : Value} (h : EntAt w0 e va vg) (hs : St w0 H w) : EntAt w e va vg := h.below hs.below

theorem RetV.of {w : World} {H : List It} {u v : Value} {w' : World} (e : v = u) (h : St w H w') : RetV w u (.returned v) w' := ⟨by rw [e], h.sel [] rfl⟩
end Go.Proofs.YtlkkiimmangplaaGreatDoor
