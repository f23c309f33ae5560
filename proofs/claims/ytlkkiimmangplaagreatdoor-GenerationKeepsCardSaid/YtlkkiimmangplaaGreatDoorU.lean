/- Own maps. -/
import Derived.Test.YtlkkiimmangplaaGreatDoorT
import Derived.WideMake
namespace Go.Proofs.YtlkkiimmangplaaGreatDoor
open Go.RowKit
set_option linter.unusedVariables false
set_option linter.unusedSimpArgs false
theorem St.map {w0 w : World} {H : List It} (h : St w0 H w) : St w0 (.map w.heap.size #[] 0 :: H) (w.alloc (.map #[] 0)) := by
  have hn : St w [.map w.heap.size #[] 0] (w.alloc (.map #[] 0)) := ⟨(Below.refl _ _).alloc (Nat.le_refl _) _, fun i x hi => by
    cases i with
    | zero => simp at hi; subst hi; exact ⟨Nat.le_refl _, heap_alloc_new w _⟩
    | succ i => simp at hi, fun i j x y hx hy hij => by cases i <;> cases j <;> simp_all⟩
  exact h.call hn
theorem St.mapSet {w0 w : World} {H : List It} (h : St w0 H w) (j : Nat) {r c c' : Nat} {es es' : Array MapEntry} (hj : H[j]? = some (.map r es c)) : St w0 (H.set j (.map r es' c')) { w with heap := w.heap.setIfInBounds r (.map es' c') } := by
  have hb := h.ok j _ hj
  have hlt := lt_of_heap hb.2
  refine h.swap j hj (fun k hk => .inl hk) ⟨hb.1, by simp [hlt]⟩ ?_ (fun k _ hk => ?_)
  · refine h.below.trans ⟨rfl, rfl, rfl, by simp, fun k hk => ?_⟩
    have : r ≠ k := by have := hb.1; omega
    simp [Array.getElem?_setIfInBounds_ne this]
  · have : r ≠ k := fun e => hk (by rw [e]; rfl)
    simp [Array.getElem?_setIfInBounds_ne this]
section
variable {w0 : World} {n : Nat} {ops : Array Oper} {Q : Exit → Act → World → Prop} {o : Oper} {rest : List Oper} {ρ : Env} {H : List It}
variable {d : Nat} {ty t t' : TypeId} {pos : String} {af : Array Edge} {g : Option (Nat × Bool)} {x y z : Operand} {v u : Value}
theorem WL.makeMap (hon : onB ops ρ ⟨some d, .makeMap t none, ty, pos, af, g⟩ = some true) (hd : Nat.blt d n = true) (k : ∀ b, WL w0 n ops Q rest ((d, .map (some b)) :: ρ) (.map b #[] 0 :: H)) :
    WL w0 n ops Q (⟨some d, .makeMap t none, ty, pos, af, g⟩ :: rest) ρ H :=
  WL.valx (S := fun _ => True) (v := fun b => .map (some b)) (H' := fun b => .map b #[] 0 :: H) hon rfl hd (fun a w hf hs => ⟨w.heap.size, _, trivial, by simp [execOp, run_makeMap_plain], hs.map⟩) (fun b _ => k b)
/-- A new key. -/
theorem WL.insert (j : Nat) {kt et : TypeId} {kd : TypeDesc} {b c : Nat} {es : Array MapEntry} {key : Value} (hm : Tryz.prog.underlying t = some (.map kt et)) (hk : Tryz.prog.underlying kt = some kd) (hkey : MapKept.IsKey kd key) (hon : onB ops ρ ⟨none, .insert t x y z, ty, pos, af, g⟩ = some true) (hx : ev ρ x = some (.map (some b))) (hy : ev ρ y = some key) (hz : ev ρ z = some v)
    (hj : H[j]? = some (.map b es c)) (hf : Instr.findNow kd key es.toList 0 = some none) (k : WL w0 n ops Q rest ρ (H.set j (.map b (es.push { key := key, val := v, born := c }) (c + 1)))) : WL w0 n ops Q (⟨none, .insert t x y z, ty, pos, af, g⟩ :: rest) ρ H :=
  WL.skip_ hon rfl (fun a w hfit hs => by
    have hb := (hs.ok j _ hj).2
    have hc : (Instr.checkKey false 10000 kt key).run Tryz.prog w = .ok () w := MapKept.run_checkKey (k := key) hk hkey false 9999
    exact ⟨_, by simp [execOp, hfit.eval hx, hfit.eval hy, hfit.eval hz, Instr.mapUpdate, run_underlying hm, MapKept.run_getObj_map hb, hc, MapKept.run_findKey hk hf, MapKept.run_setObj_map _ hb, Result.andThen], hs.mapSet j hj⟩) k
/-- A look with two results. -/
theorem P.lookup2 (j : Nat) {kt et : TypeId} {kd : TypeDesc} {b c i : Nat} {es : Array MapEntry} {key : Value} (hm : Tryz.prog.underlying t = some (.map kt et)) (hk : Tryz.prog.underlying kt = some kd) (hkey : MapKept.IsKey kd key) (hx : ev ρ x = some (.map (some b))) (hy : ev ρ y = some key) (hj : H[j]? = some (.map b es c))
    (hf : Instr.findNow kd key es.toList 0 = some (some (i, v))) : Pure w0 n ρ H ⟨some d, .lookup t x y true, ty, pos, af, g⟩ (.tuple #[v, .bool true]) :=
  fun a w hfit hs => by
    have hb := (hs.ok j _ hj).2
    have hc : ∀ e, (Instr.checkKey e 10000 kt key).run Tryz.prog w = .ok () w := fun e => MapKept.run_checkKey (k := key) hk hkey e 9999
    simp [execOp, hfit.eval hx, hfit.eval hy, Instr.lookup, run_underlying hm, MapKept.run_getObj_map hb, hc, MapKept.run_findKey hk hf, Result.andThen]
theorem P.lookup2n (j : Nat) {kt et : TypeId} {kd : TypeDesc} {b c : Nat} {es : Array MapEntry} {key zv : Value} (hm : Tryz.prog.underlying t = some (.map kt et)) (hk : Tryz.prog.underlying kt = some kd) (hkey : MapKept.IsKey kd key) (hz : ∀ w : World, (zeroValue et).run Tryz.prog w = .ok zv w) (hx : ev ρ x = some (.map (some b))) (hy : ev ρ y = some key) (hj : H[j]? = some (.map b es c))
    (hf : Instr.findNow kd key es.toList 0 = some none) : Pure w0 n ρ H ⟨some d, .lookup t x y true, ty, pos, af, g⟩ (.tuple #[zv, .bool false]) :=
  fun a w hfit hs => by
    have hb := (hs.ok j _ hj).2
    have hc : ∀ e, (Instr.checkKey e 10000 kt key).run Tryz.prog w = .ok () w := fun e => MapKept.run_checkKey (k := key) hk hkey e 9999
    simp [execOp, hfit.eval hx, hfit.eval hy, Instr.lookup, run_underlying hm, MapKept.run_getObj_map hb, hc, MapKept.run_findKey hk hf, Result.andThen, hz w]
variable {vs : List (Lt → Value)} {Hs : (Nat → Bool) → Lt → List It} {al : List Nat} {i : Nat}
def onl (ks : List Nat) (b : Nat → Bool) : Nat → Bool := fun k => bif ks.any (fun x => Nat.beq x k) then true else b k
/-- What stands in front has been done. -/
theorem Stp.on (ks : List Nat) (hks : ks.all (fun k => (dps o).any (fun x => Nat.beq x k)) = true) (h : Stp w0 n ops Q ρ vs (fun b s => Hs (onl ks b) s) al i o) : Stp w0 n ops Q ρ vs Hs al i o := fun b s hcl hb hd => by
  have key : ∀ c : Nat → Bool, (∀ k ∈ ks, c k = true) → onl ks c = c := by
    intro c hc
    funext k
    unfold onl
    cases hq : ks.any (fun x => Nat.beq x k) with
    | false => rfl
    | true =>
      obtain ⟨x, hx, hxk⟩ := List.any_eq_true.1 hq
      rw [← Nat.eq_of_beq_eq_true hxk, hc x hx]; rfl
  have h1 : ∀ k ∈ ks, b k = true := by
    intro k hk
    obtain ⟨x, hx, hxk⟩ := List.any_eq_true.1 (List.all_eq_true.1 hks k hk)
    rw [← Nat.eq_of_beq_eq_true hxk]
    exact hd x hx
  have h2 : ∀ k ∈ ks, up b i k = true := by
    intro k hk
    unfold up
    rw [h1 k hk]
    cases Nat.beq k i <;> rfl
  have := h b s hcl hb hd
  simp only [key b h1, key (up b i) h2] at this
  exact this
end
end Go.Proofs.YtlkkiimmangplaaGreatDoor
