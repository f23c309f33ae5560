/- '==' of structs. -/
import Derived.Test.YtlkkiimmangplaaGreatDoorK
import Derived.Laws.StructEq
namespace Go.Proofs.YtlkkiimmangplaaGreatDoor
open Go.RowKit
set_option linter.unusedVariables false
set_option linter.unusedSimpArgs false

theorem toList_inj {a b : ByteArray} : a.toList = b.toList ↔ a = b := by
  rw [ByteArray.toList_eq, ByteArray.toList_eq]
  obtain ⟨⟨x⟩⟩ := a
  obtain ⟨⟨y⟩⟩ := b
  simp
theorem toList_beq {a b : ByteArray} : (a.toList == b.toList) = decide (a = b) := by
  rw [Bool.eq_iff_iff]; simp [toList_inj]

theorem part_cell {t : TypeId} (hag : NoAgg t) {cs : Array Value} {off : Nat} {v : Value} (h : cs[off]? = some v) {w : World} : (part t cs off).run Tryz.prog w = .ok v w := by
  simp [part, Sem.run_bind, hag w, h]
theorem eqf_cons {f : Field} {fs : List Field} {xs ys : Array Value} {d : Nat} {w : World} {a b : Value} {c r : Bool} (hn : f.name ≠ "_") (ha : (part f.type xs f.offset).run Tryz.prog w = .ok a w) (hb : (part f.type ys f.offset).run Tryz.prog w = .ok b w) (hc : (Op.equalIn d f.type a b).run Tryz.prog w = .ok c w)
    (hr : (Op.eqFields d xs ys fs).run Tryz.prog w = .ok r w) : (Op.eqFields d xs ys (f :: fs)).run Tryz.prog w = .ok (c && r) w := by
  simp only [Op.eqFields, hn, ne_eq, not_false_eq_true, if_true, Sem.run_bind, ha, hb, hc, Result.andThen_ok]
  cases c
  · simp
  · simpa using hr
theorem eqf_nil {xs ys : Array Value} {d : Nat} {w : World} : (Op.eqFields d xs ys []).run Tryz.prog w = .ok true w := by simp [Op.eqFields]
theorem equal_struct {t : TypeId} {fs : Array Field} {xs ys : Array Value} {b : Bool} {w : World} (hu : Tryz.prog.underlying t = some (.struct fs)) (hp : Tryz.prog.stoodInHeld t = false) (h : (Op.eqFields 9999 xs ys fs.toList).run Tryz.prog w = .ok b w) :
    (Op.equal t (.agg xs) (.agg ys)).run Tryz.prog w = .ok b w := by
  have hf : Tryz.prog.fieldsOf t = fs := by simp [Program.fieldsOf, hu]
  have := run_equalIn_struct (P := Tryz.prog) w 9999 t xs ys (by rw [hf]; exact hu) hp
  rw [hf, h] at this
  exact this

section
variable {w0 : World} {n : Nat} {ops : Array Oper} {Q : Exit → Act → World → Prop} {rest : List Oper} {ρ : Env} {H : List It}
variable {d : Nat} {ty t t' : TypeId} {pos : String} {af : Array Edge} {g : Option (Nat × Bool)} {x y : Operand}
theorem P.eqAgg {xs ys : Array Value} {b : Bool} (hgt : Tryz.prog.eqGuardType Tryz.prog.depth t = false)  (hx : ev ρ x = some (.agg xs)) (hy : ev ρ y = some (.agg ys)) (he : ∀ w, (Op.equal t (.agg xs) (.agg ys)).run Tryz.prog w = .ok b w)
    : Pure w0 n ρ H ⟨some d, .binOp .eql t x y t', ty, pos, af, g⟩ (.bool b) :=
  fun a w hf _ => by simp [execOp, hf.eval hx, hf.eval hy, eqGuard, hgt, binOp, Sem.run_bind, he w]
theorem P.neAgg {xs ys : Array Value} {b : Bool} (hgt : Tryz.prog.eqGuardType Tryz.prog.depth t = false)  (hx : ev ρ x = some (.agg xs)) (hy : ev ρ y = some (.agg ys)) (he : ∀ w, (Op.equal t (.agg xs) (.agg ys)).run Tryz.prog w = .ok b w)
    : Pure w0 n ρ H ⟨some d, .binOp .neq t x y t', ty, pos, af, g⟩ (.bool (!b)) :=
  fun a w hf _ => by simp [execOp, hf.eval hx, hf.eval hy, eqGuard, hgt, binOp, Sem.run_bind, he w]
end
theorem egt31 : Tryz.prog.eqGuardType Tryz.prog.depth 31 = false := by kernel_rfl
theorem egt51 : Tryz.prog.eqGuardType Tryz.prog.depth 51 = false := by kernel_rfl

set_option maxRecDepth 100000 in
theorem eq31 (a b : DS) (w : World) : (Op.equal 31 (.agg (DS.cells a)) (.agg (DS.cells b))).run Tryz.prog w = .ok (decide (a = b)) w := by
  have key : (Op.equal 31 (.agg (DS.cells a)) (.agg (DS.cells b))).run Tryz.prog w = .ok ((a.id == b.id) && ((a.org == b.org) && ((a.format == b.format) && ((a.length == b.length) && ((a.block == b.block) && ((a.keyAt == b.keyAt) && ((a.keyLength == b.keyLength) && ((a.interval == b.interval) && ((a.area == b.area) && ((a.freeInterval == b.freeInterval) && ((a.freeArea == b.freeArea) && ((a.base == b.base) && ((a.altAt == b.altAt) && ((a.altLength == b.altLength) && ((a.unique == b.unique) && ((a.cls == b.cls) && ((a.volume.toList == b.volume.toList) && ((a.owner.toList == b.owner.toList) && ((a.created == b.created) && ((a.expires == b.expires) && ((a.archived == b.archived) && true))))))))))))))))))))) w := by
    refine equal_struct Tryz.underlying31 (by kernel_rfl) ?_
    refine eqf_cons (by decide) (part_cell Tryz.isAgg3 rfl) (part_cell Tryz.isAgg3 rfl) (run_equalIn_int w _ 3 _ _ _ _ Tryz.underlying3) ?_
    refine eqf_cons (by decide) (part_cell Tryz.isAgg3 rfl) (part_cell Tryz.isAgg3 rfl) (run_equalIn_int w _ 3 _ _ _ _ Tryz.underlying3) ?_
    refine eqf_cons (by decide) (part_cell Tryz.isAgg3 rfl) (part_cell Tryz.isAgg3 rfl) (run_equalIn_int w _ 3 _ _ _ _ Tryz.underlying3) ?_
    refine eqf_cons (by decide) (part_cell Tryz.isAgg3 rfl) (part_cell Tryz.isAgg3 rfl) (run_equalIn_int w _ 3 _ _ _ _ Tryz.underlying3) ?_
    refine eqf_cons (by decide) (part_cell Tryz.isAgg3 rfl) (part_cell Tryz.isAgg3 rfl) (run_equalIn_int w _ 3 _ _ _ _ Tryz.underlying3) ?_
    refine eqf_cons (by decide) (part_cell Tryz.isAgg3 rfl) (part_cell Tryz.isAgg3 rfl) (run_equalIn_int w _ 3 _ _ _ _ Tryz.underlying3) ?_
    refine eqf_cons (by decide) (part_cell Tryz.isAgg3 rfl) (part_cell Tryz.isAgg3 rfl) (run_equalIn_int w _ 3 _ _ _ _ Tryz.underlying3) ?_
    refine eqf_cons (by decide) (part_cell Tryz.isAgg3 rfl) (part_cell Tryz.isAgg3 rfl) (run_equalIn_int w _ 3 _ _ _ _ Tryz.underlying3) ?_
    refine eqf_cons (by decide) (part_cell Tryz.isAgg3 rfl) (part_cell Tryz.isAgg3 rfl) (run_equalIn_int w _ 3 _ _ _ _ Tryz.underlying3) ?_
    refine eqf_cons (by decide) (part_cell Tryz.isAgg3 rfl) (part_cell Tryz.isAgg3 rfl) (run_equalIn_int w _ 3 _ _ _ _ Tryz.underlying3) ?_
    refine eqf_cons (by decide) (part_cell Tryz.isAgg3 rfl) (part_cell Tryz.isAgg3 rfl) (run_equalIn_int w _ 3 _ _ _ _ Tryz.underlying3) ?_
    refine eqf_cons (by decide) (part_cell Tryz.isAgg3 rfl) (part_cell Tryz.isAgg3 rfl) (run_equalIn_int w _ 3 _ _ _ _ Tryz.underlying3) ?_
    refine eqf_cons (by decide) (part_cell Tryz.isAgg3 rfl) (part_cell Tryz.isAgg3 rfl) (run_equalIn_int w _ 3 _ _ _ _ Tryz.underlying3) ?_
    refine eqf_cons (by decide) (part_cell Tryz.isAgg3 rfl) (part_cell Tryz.isAgg3 rfl) (run_equalIn_int w _ 3 _ _ _ _ Tryz.underlying3) ?_
    refine eqf_cons (by decide) (part_cell Tryz.isAgg4 rfl) (part_cell Tryz.isAgg4 rfl) (run_equalIn_bool' w _ 4  _ _ Tryz.underlying4) ?_
    refine eqf_cons (by decide) (part_cell Tryz.isAgg3 rfl) (part_cell Tryz.isAgg3 rfl) (run_equalIn_int w _ 3 _ _ _ _ Tryz.underlying3) ?_
    refine eqf_cons (by decide) (part_cell Tryz.isAgg9 rfl) (part_cell Tryz.isAgg9 rfl) (run_equalIn_string w _ 9  _ _ Tryz.underlying9) ?_
    refine eqf_cons (by decide) (part_cell Tryz.isAgg9 rfl) (part_cell Tryz.isAgg9 rfl) (run_equalIn_string w _ 9  _ _ Tryz.underlying9) ?_
    refine eqf_cons (by decide) (part_cell Tryz.isAgg3 rfl) (part_cell Tryz.isAgg3 rfl) (run_equalIn_int w _ 3 _ _ _ _ Tryz.underlying3) ?_
    refine eqf_cons (by decide) (part_cell Tryz.isAgg3 rfl) (part_cell Tryz.isAgg3 rfl) (run_equalIn_int w _ 3 _ _ _ _ Tryz.underlying3) ?_
    refine eqf_cons (by decide) (part_cell Tryz.isAgg4 rfl) (part_cell Tryz.isAgg4 rfl) (run_equalIn_bool' w _ 4  _ _ Tryz.underlying4) ?_
    exact eqf_nil
  rw [key]
  congr 1
  obtain ⟨a0, a1, a2, a3, a4, a5, a6, a7, a8, a9, a10, a11, a12, a13, a14, a15, a16, a17, a18, a19, a20⟩ := a
  obtain ⟨b0, b1, b2, b3, b4, b5, b6, b7, b8, b9, b10, b11, b12, b13, b14, b15, b16, b17, b18, b19, b20⟩ := b
  rw [Bool.eq_iff_iff]
  simp only [DS.mk.injEq, Bool.and_eq_true, beq_iff_eq, decide_eq_true_eq, toList_inj, and_true]

set_option maxRecDepth 100000 in
theorem eq51 (a b : Gr) (w : World) : (Op.equal 51 (.agg (Gr.cells a).toArray) (.agg (Gr.cells b).toArray)).run Tryz.prog w = .ok (decide (a = b)) w := by
  have key : (Op.equal 51 (.agg (Gr.cells a).toArray) (.agg (Gr.cells b).toArray)).run Tryz.prog w = .ok ((a.who.toList == b.who.toList) && ((a.group == b.group) && ((a.level == b.level) && true))) w := by
    refine equal_struct Tryz.underlying51 (by kernel_rfl) ?_
    refine eqf_cons (by decide) (part_cell Tryz.isAgg9 rfl) (part_cell Tryz.isAgg9 rfl) (run_equalIn_string w _ 9  _ _ Tryz.underlying9) ?_
    refine eqf_cons (by decide) (part_cell Tryz.isAgg4 rfl) (part_cell Tryz.isAgg4 rfl) (run_equalIn_bool' w _ 4  _ _ Tryz.underlying4) ?_
    refine eqf_cons (by decide) (part_cell Tryz.isAgg3 rfl) (part_cell Tryz.isAgg3 rfl) (run_equalIn_int w _ 3 _ _ _ _ Tryz.underlying3) ?_
    exact eqf_nil
  rw [key]
  congr 1
  obtain ⟨a0, a1, a2⟩ := a
  obtain ⟨b0, b1, b2⟩ := b
  rw [Bool.eq_iff_iff]
  simp only [Gr.mk.injEq, Bool.and_eq_true, beq_iff_eq, decide_eq_true_eq, toList_inj, and_true]
end Go.Proofs.YtlkkiimmangplaaGreatDoor
