/- Own maps from numbers to true; what holds of every world that stands so. -/
import Derived.Test.YtlkkiimmangplaaGreatDoorV5
import Derived.Test.YtlkkiimmangplaaGreatDoorU
namespace Go.Proofs.YtlkkiimmangplaaGreatDoor
open Go.RowKit
set_option linter.unusedVariables false
set_option linter.unusedSimpArgs false
/-- A map of type map[int]bool that is true at just these numbers. -/
def IntSet (es : Array MapEntry) (l : List Int) : Prop := (∀ e ∈ es.toList, ∃ n, e.key = .int .i64 n ∧ e.val = .bool true) ∧ ∀ n, n ∈ l ↔ ∃ e ∈ es.toList, e.key = .int .i64 n
theorem IntSet.nil : IntSet #[] [] := ⟨by simp, by simp⟩
theorem IntSet.keys {es : Array MapEntry} {l : List Int} (h : IntSet es l) : ∀ e ∈ es.toList, MapKept.IsKey (.int .i64) e.key := fun e he => by
  obtain ⟨n, h1, _⟩ := h.1 e he
  rw [h1]; rfl
theorem IntSet.push {es : Array MapEntry} {l : List Int} {m : Int} {c : Nat} (h : IntSet es l) : IntSet (es.push { key := .int .i64 m, val := .bool true, born := c }) (l ++ [m]) := by
  refine ⟨fun e he => ?_, fun n => ?_⟩
  · rw [Array.toList_push, List.mem_append, List.mem_singleton] at he
    rcases he with he | rfl
    · exact h.1 e he
    · exact ⟨m, rfl, rfl⟩
  · rw [Array.toList_push, List.mem_append, List.mem_singleton, h.2 n]
    constructor
    · rintro (⟨e, he, hk⟩ | rfl)
      · exact ⟨e, List.mem_append_left _ he, hk⟩
      · exact ⟨_, List.mem_append_right _ (List.mem_singleton.2 rfl), rfl⟩
    · rintro ⟨e, he, hk⟩
      rw [List.mem_append, List.mem_singleton] at he
      rcases he with he | rfl
      · exact .inl ⟨e, he, hk⟩
      · cases hk; exact .inr rfl
theorem IntSet.modify {es : Array MapEntry} {l : List Int} {m : Int} {j : Nat} {e0 : MapEntry} (h : IntSet es l) (h0 : es.toList[j]? = some e0) (hk : e0.key = .int .i64 m) : IntSet (es.modify j (fun e => { e with key := .int .i64 m, val := .bool true })) (l ++ [m]) := by
  have hj : es[j]? = some e0 := by simpa using h0
  have hkeys := MapKept.modify_keys (es := es) j (fun e => { e with key := .int .i64 m, val := .bool true }) (fun e he => by rw [hj] at he; cases he; exact hk.symm)
  have hm : m ∈ l := (h.2 m).2 ⟨e0, List.mem_of_getElem? h0, hk⟩
  have hmem : ∀ n : Int, (∃ e ∈ (es.modify j (fun e => { e with key := .int .i64 m, val := .bool true })).toList, e.key = .int .i64 n) ↔ ∃ e ∈ es.toList, e.key = .int .i64 n := fun n => by
    have h1 : ∀ (L : List MapEntry), (∃ e ∈ L, e.key = .int .i64 n) ↔ Value.int .i64 n ∈ L.map (·.key) := fun L => by simp [List.mem_map]
    rw [h1, h1, hkeys]
  refine ⟨fun e he => ?_, fun n => ?_⟩
  · obtain ⟨i, hi⟩ := List.mem_iff_getElem?.1 he
    rw [Array.getElem?_toList, Array.getElem?_modify] at hi
    by_cases hij : j = i
    · subst hij
      rw [if_pos rfl, hj] at hi
      cases hi
      exact ⟨m, rfl, rfl⟩
    · rw [if_neg hij] at hi
      exact h.1 e (List.mem_of_getElem? (by rw [Array.getElem?_toList]; exact hi))
  · rw [List.mem_append, List.mem_singleton, hmem n, ← h.2 n]
    constructor
    · rintro (h1 | rfl)
      · exact h1
      · exact hm
    · exact .inl
section
variable {w0 : World} {n : Nat} {ops : Array Oper} {Q : Exit → Act → World → Prop} {o : Oper} {rest : List Oper} {ρ : Env} {H : List It}
variable {d : Nat} {ty t t' : TypeId} {pos : String} {af : Array Edge} {g : Option (Nat × Bool)} {x y z : Operand} {v u : Value}
/-- m[k] = true. -/
theorem WL.putInt (j : Nat) {kt et : TypeId} {b c : Nat} {es : Array MapEntry} {l : List Int} {m : Int} (hm : Tryz.prog.underlying t = some (.map kt et)) (hk : Tryz.prog.underlying kt = some (.int .i64)) (hon : onB ops ρ ⟨none, .mapUpdate t x y z, ty, pos, af, g⟩ = some true) (hx : ev ρ x = some (.map (some b))) (hy : ev ρ y = some (.int .i64 m)) (hz : ev ρ z = some (.bool true))
    (hj : H[j]? = some (.map b es c)) (h : IntSet es l) (k : ∀ es' c', IntSet es' (l ++ [m]) → WL w0 n ops Q rest ρ (H.set j (.map b es' c'))) : WL w0 n ops Q (⟨none, .mapUpdate t x y z, ty, pos, af, g⟩ :: rest) ρ H := by
  have hkey : MapKept.IsKey (.int .i64) (.int .i64 m) := rfl
  rcases MapKept.findNow_spec hkey es.toList 0 h.keys with ⟨h1, _⟩ | ⟨i, e, h1, h2, h3⟩
  · refine WL.skip_ hon rfl (fun a w hfit hs => ?_) (k _ (c + 1) (h.push (c := c)))
    have hb := (hs.ok j _ hj).2
    have hc : (Instr.checkKey false 10000 kt (.int .i64 m)).run Tryz.prog w = .ok () w := MapKept.run_checkKey (k := .int .i64 m) hk hkey false 9999
    exact ⟨_, by simp [execOp, hfit.eval hx, hfit.eval hy, hfit.eval hz, Instr.mapUpdate, run_underlying hm, MapKept.run_getObj_map hb, hc, MapKept.run_findKey hk h1, MapKept.run_setObj_map _ hb, Result.andThen], hs.mapSet j hj⟩
  · have hi : es[i]? = some e := by simpa using h2
    refine WL.skip_ hon rfl (fun a w hfit hs => ?_) (k _ c (h.modify h2 h3))
    have hb := (hs.ok j _ hj).2
    have hc : (Instr.checkKey false 10000 kt (.int .i64 m)).run Tryz.prog w = .ok () w := MapKept.run_checkKey (k := .int .i64 m) hk hkey false 9999
    exact ⟨_, by simp [execOp, hfit.eval hx, hfit.eval hy, hfit.eval hz, Instr.mapUpdate, run_underlying hm, MapKept.run_getObj_map hb, hc, MapKept.run_findKey hk h1, hi, h3, MapKept.run_keyThatStays hkey, MapKept.run_setObj_map _ hb, Result.andThen], hs.mapSet j hj⟩
/-- m[k]. -/
theorem P.hasInt (j : Nat) {kt et : TypeId} {b c : Nat} {es : Array MapEntry} {l : List Int} {m : Int} (hm : Tryz.prog.underlying t = some (.map kt et)) (hk : Tryz.prog.underlying kt = some (.int .i64)) (hz : ∀ w : World, (zeroValue et).run Tryz.prog w = .ok (.bool false) w) (hx : ev ρ x = some (.map (some b))) (hy : ev ρ y = some (.int .i64 m)) (hj : H[j]? = some (.map b es c)) (h : IntSet es l) :
    Pure w0 n ρ H ⟨some d, .lookup t x y false, ty, pos, af, g⟩ (.bool (decide (m ∈ l))) := fun a w hfit hs => by
  have hkey : MapKept.IsKey (.int .i64) (.int .i64 m) := rfl
  have hb := (hs.ok j _ hj).2
  have hc : ∀ e, (Instr.checkKey e 10000 kt (.int .i64 m)).run Tryz.prog w = .ok () w := fun e => MapKept.run_checkKey (k := .int .i64 m) hk hkey e 9999
  rcases MapKept.findNow_spec hkey es.toList 0 h.keys with ⟨h1, h2⟩ | ⟨i, e, h1, h2, h3⟩
  · have hno : ¬ m ∈ l := fun hm => by obtain ⟨e, he, hk⟩ := (h.2 m).1 hm; exact h2 e he hk
    simp [execOp, hfit.eval hx, hfit.eval hy, Instr.lookup, run_underlying hm, MapKept.run_getObj_map hb, hc, MapKept.run_findKey hk h1, Result.andThen, hz w, hno]
  · have he := List.mem_of_getElem? h2
    obtain ⟨_, _, hv⟩ := h.1 e he
    have hyes : m ∈ l := (h.2 m).2 ⟨e, he, h3⟩
    simp [execOp, hfit.eval hx, hfit.eval hy, Instr.lookup, run_underlying hm, MapKept.run_getObj_map hb, hc, MapKept.run_findKey hk h1, Result.andThen, hv, hyes]
end
theorem WC.know {w0 : World} {n : Nat} {Q : Exit → Act → World → Prop} {ρ : Env} {H : List It} {cd : Code} {φ : Prop} (h : ∀ w, St w0 H w → φ) (k : φ → WC w0 n Q cd ρ H) : WC w0 n Q cd ρ H := fun a w hf hs => k (h w hs) a w hf hs
theorem Sl.elI {w : World} {b off : Nat} {xs : List Int} {i : Int} {x : Int} (h : Sl encI 1 w (some ⟨b, off, none⟩) xs) (h0 : 0 ≤ i) (hx : xs[i.toNat]? = some x) : w.cell? ⟨b, off + i.toNat * 1, none⟩ = some (.int .i64 x) := by
  obtain ⟨b', o', e, hc⟩ := h.at_ (by have := (List.getElem?_eq_some_iff.1 hx).1; omega)
  cases e
  have := hc i.toNat x hx 0 _ rfl
  rw [Int.toNat_natCast] at this
  exact this
theorem ints_get {l : List Int} {k : Nat} {x : Int} (h : l[k]? = some x) : (ints l)[k]? = some (.int .i64 x) := by simp [ints, h]
end Go.Proofs.YtlkkiimmangplaaGreatDoor
