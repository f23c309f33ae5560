/- Parts of slices; calls in a drawing region that lay one thing. -/
import Derived.Test.YtlkkiimmangplaaGreatDoorV3
import Derived.Test.YtlkkiimmangplaaGreatDoorP13
namespace Go.Proofs.YtlkkiimmangplaaGreatDoor
open Go.RowKit
set_option linter.unusedVariables false
set_option linter.unusedSimpArgs false

section
variable {w0 : World} {n : Nat} {ops : Array Oper} {Q : Exit → Act → World → Prop} {o : Oper} {rest : List Oper} {ρ : Env} {H : List It}
variable {d : Nat} {ty t t' : TypeId} {pos : String} {af : Array Edge} {g : Option (Nat × Bool)} {x y z : Operand} {v u : Value}
/-- The address of a part from i on; at the end of the room it stays. -/
def cutA (A : Option Addr) (i c sz : Nat) : Option Addr := if c = i then A else A.map (·.add (i * sz))
theorem P.cutAny {e m c sz : Nat} {A : Option Addr} {j : IntKind} {i : Int} (hu : Tryz.prog.underlying t = some (.slice e)) (hsz : Sized e sz) (hx : ev ρ x = some (.slice A m c)) (hy : ev ρ y = some (.int j i)) (h0 : 0 ≤ i) (h1 : i ≤ m) :
    Pure w0 n ρ H ⟨some d, .slice t x (some y) none none, ty, pos, af, g⟩ (.slice (cutA A i.toNat c sz) (m - i.toNat) (c - i.toNat)) :=
  fun a w hf _ => by
    have hu' : Tryz.prog.underlying t = some (.slice (Tryz.prog.elem t)) := by simp [Program.elem, hu]
    have he : Tryz.prog.elem t = e := by simp [Program.elem, hu]
    have h := run_slice_l (P := Tryz.prog) w t A m c hu' j i h0 h1
    rw [he, hsz w] at h
    simp [execOp, hf.eval hx, hf.eval hy, run_sliceAt_slice (P := Tryz.prog) w t _ _ _ _ hu', h, sliced, cutA]
variable {vs : List (Lt → Value)} {Hs : (Nat → Bool) → Lt → List It} {al : List Nat} {i : Nat}
/-- A call that lays one new thing, told by two numbers. -/
theorem Stp.callx2 {f : FuncId} {xs : List Operand} {ats : Array TypeId} (j : Nat) (he : Ent f) (hi : al.contains i = true) (hr : ∀ (b : Nat → Bool) (s : Lt), b i = false → (∀ j ∈ dps ⟨some d, .call ⟨.value (.func f), xs.toArray, ats⟩, ty, pos, af, g⟩, b j = true) → ∃ (us : List Value) (S : Nat × Nat → Prop) (v : Nat × Nat → Value) (X : Nat × Nat → It), (onB ops (envOf ops (fun j => nth vs j s) (dps ⟨some d, .call ⟨.value (.func f), xs.toArray, ats⟩, ty, pos, af, g⟩) ++ ρ) ⟨some d, .call ⟨.value (.func f), xs.toArray, ats⟩, ty, pos, af, g⟩ = some true) ∧
      evl (envOf ops (fun j => nth vs j s) (dps ⟨some d, .call ⟨.value (.func f), xs.toArray, ats⟩, ty, pos, af, g⟩) ++ ρ) xs = some us ∧
      (∀ w, St w0 (Hs b s) w → Calls Tryz.prog f us.toArray w (Ret w S v (fun q => [X q]))) ∧ (∀ q, v q = nth vs i (updl s i q)) ∧ (∃ Y, (Hs b s)[j]? = some (bif b i then Y else .nil)) ∧ ∀ q, Hs (up b i) (updl s i q) = (Hs b s).set j (X q)) : Stp w0 n ops Q ρ vs Hs al i ⟨some d, .call ⟨.value (.func f), xs.toArray, ats⟩, ty, pos, af, g⟩ := fun b s hcl hb hd => by
  obtain ⟨us, S, v, X, hon, hx, hc, hv, ⟨Y, hj⟩, hH⟩ := hr b s hb hd
  rw [hb] at hj
  refine OS.callG (cap := #[]) he rfl hon rfl hx fun w hs => ?_
  rw [Array.append_empty]
  refine (hc w hs).mono fun e w' h => ?_
  obtain ⟨q, _, rfl, h2⟩ := h
  refine ⟨v q, rfl, _, .inr ⟨by simpa using hi, q, rfl⟩, hv q, ?_⟩
  rw [hH q]
  have h3 : St w0 ([X q] ++ (Hs b s)) w' := hs.call h2
  refine hs.swap j hj (fun k hk => .inr (It.base (h2.ok 0 _ rfl) hk).1) (It.lower (h2.ok 0 _ rfl) hs.size) h3.below (fun k hk _ => h2.below.block k hk)
end
theorem Sl.cut {w : World} {A : Option Addr} {xs : List Int} {c : Nat} (h : Sl encI 1 w A xs) (i : Nat) (hc : xs.length ≤ c) : Sl encI 1 w (cutA A i c 1) (xs.drop i) := by
  refine ⟨by have := h.1; rw [List.length_drop]; omega, fun hp => ?_⟩
  rw [List.length_drop] at hp
  obtain ⟨b, off, rfl, hcl⟩ := h.at_ (by omega)
  refine ⟨b, off + i, ?_, fun k x hx j u hu => ?_⟩
  · unfold cutA
    rw [if_neg (by omega)]
    simp [add0]
  · rw [List.getElem?_drop] at hx
    have := hcl (i + k) x hx j u hu
    rw [show off + i + ((k : Nat) : Int).toNat * 1 + j = off + (((i + k : Nat) : Int)).toNat * 1 + j by omega]
    exact this
theorem WC.rowCap {w0 : World} {n : Nat} {Q : Exit → Act → World → Prop} {ρ : Env} {H : List It} {cd : Code} (j : Nat) {e sz g l c : Nat} {xs : List Value} (hj : H[j]? = some (.row e sz (.slice (some ⟨g, 0, none⟩) l c) l xs)) (k : l ≤ c → WC w0 n Q cd ρ H) : WC w0 n Q cd ρ H := fun a w hf hs => by
  refine k ?_ a w hf hs
  rcases (hs.ok j _ hj).2 with ⟨h3, _⟩ | ⟨g', cap', cur, h3, _, _, h4, _⟩
  · cases h3
  · cases h3; exact h4
theorem Sl.src' {w : World} {A : Option Addr} {xs : List Int} {c : Nat} (h : Sl encI 1 w A xs) (hc : A = none → c = 0) : (A = none ∧ xs.length = 0 ∧ c = 0) ∨ ∃ a, A = some a ∧ ∀ j u, (ints xs)[j]? = some u → w.cell? (a.add j) = some u := by
  have := h.src hc (Nat.le_refl _)
  rwa [List.take_length] at this
theorem E.one (e : E) {va vg : Value} (h1 : va.oneCell' = true) (h2 : vg.oneCell' = true) : (e.cells va vg).toList.all Value.oneCell' = true := by
  show (_ && _) = true
  simp [E.cells, Value.oneCell', h1, h2] at *
  simp [h1, h2]

end Go.Proofs.YtlkkiimmangplaaGreatDoor
