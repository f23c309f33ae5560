/- More pure steps. -/
import Derived.Test.YtlkkiimmangplaaGreatDoorS
import Derived.Test.YtlkkiimmangplaaGreatDoorB
import Derived.Laws.BytesArg
namespace Go.Proofs.YtlkkiimmangplaaGreatDoor
open Go.RowKit
set_option linter.unusedVariables false
set_option linter.unusedSimpArgs false
section
variable {w0 : World} {n : Nat} {ops : Array Oper} {Q : Exit → Act → World → Prop} {o : Oper} {rest : List Oper} {ρ : Env} {H : List It}
variable {d : Nat} {ty t t' : TypeId} {pos : String} {af : Array Edge} {g : Option (Nat × Bool)} {x y z k : Operand} {v u : Value}
theorem P.eqB {p q : Bool} (hu : Tryz.prog.underlying t = some .bool) (hx : ev ρ x = some (.bool p)) (hy : ev ρ y = some (.bool q)) : Pure w0 n ρ H ⟨some d, .binOp .eql t x y t', ty, pos, af, g⟩ (.bool (p == q)) :=
  fun a w hf _ => by
    have h := run_equal_bool (P := Tryz.prog) w t p q hu
    simp [execOp, hf.eval hx, hf.eval hy, eqGuard, binOp, Sem.run_bind, h]
theorem P.eqNil {e : TypeId} {p : Option Addr} (hu : Tryz.prog.underlying t = some (.pointer e)) (hx : ev ρ x = some (.pointer p)) (hy : ev ρ y = some (.pointer none)) : Pure w0 n ρ H ⟨some d, .binOp .eql t x y t', ty, pos, af, g⟩ (.bool p.isNone) :=
  fun a w hf _ => by
    have h := run_equal_pointer_nil (P := Tryz.prog) w t p (by simp [Program.pointee, hu])
    simp [execOp, hf.eval hx, hf.eval hy, eqGuard, binOp, Sem.run_bind, h]
theorem P.neg {p : Int} (hx : ev ρ x = some (.int .i64 p)) (hb : -9223372036854775808 ≤ -p ∧ -p ≤ 9223372036854775807) : Pure w0 n ρ H ⟨some d, .unOp .neg t x, ty, pos, af, g⟩ (.int .i64 (-p)) :=
  fun a w hf _ => by simp [execOp, hf.eval hx, Op.unary, Op.intArith, wrap_in hb]
/-- Whole numbers turned into another kind. -/
theorem P.conv {src dst : TypeId} {j j' : IntKind} {p q : Int} (hs : (Tryz.prog.underlying src).isSome = true) (hd : Tryz.prog.underlying dst = some (.int j)) (hx : ev ρ x = some (.int j' p)) (hq : j.wrap p = q) : Pure w0 n ρ H ⟨some d, .convert src dst x, ty, pos, af, g⟩ (.int j q) :=
  fun a w hf _ => by
    have e : Tryz.prog.intKind dst = j := by simp [Program.intKind, hd]
    have h := run_convert_int (P := Tryz.prog) w src dst j' p hs (by rw [e]; exact hd)
    rw [e, hq] at h
    simp [execOp, hf.eval hx, h]
/-- Parts of strings. -/
theorem P.subL {s : ByteArray} {j : IntKind} {i : Int} (hu : Tryz.prog.underlying t = some .string) (hx : ev ρ x = some (.string s)) (hy : ev ρ y = some (.int j i)) (h0 : 0 ≤ i) (h1 : i ≤ s.size) : Pure w0 n ρ H ⟨some d, .slice t x (some y) none none, ty, pos, af, g⟩ (.string (s.extract i.toNat s.size)) :=
  fun a w hf _ => by
    simp [execOp, hf.eval hx, hf.eval hy, run_sliceAt_string (P := Tryz.prog) w t _ _ _ _ hu, Instr.slice, underlying, hu, Instr.sliceBounds, run_sliceBound, h0, h1]
theorem P.subH {s : ByteArray} {j : IntKind} {i : Int} (hu : Tryz.prog.underlying t = some .string) (hx : ev ρ x = some (.string s)) (hy : ev ρ y = some (.int j i)) (h0 : 0 ≤ i) (h1 : i ≤ s.size) : Pure w0 n ρ H ⟨some d, .slice t x none (some y) none, ty, pos, af, g⟩ (.string (s.extract 0 i.toNat)) :=
  fun a w hf _ => by
    simp [execOp, hf.eval hx, hf.eval hy, run_sliceAt_string (P := Tryz.prog) w t _ _ _ _ hu, Instr.slice, underlying, hu, Instr.sliceBounds, run_sliceBound, h0, h1]
theorem P.subLH {s : ByteArray} {j j' : IntKind} {i l : Int} (hu : Tryz.prog.underlying t = some .string) (hx : ev ρ x = some (.string s)) (hy : ev ρ y = some (.int j i)) (hz : ev ρ z = some (.int j' l)) (h0 : 0 ≤ i) (h1 : i ≤ l) (h2 : l ≤ s.size) : Pure w0 n ρ H ⟨some d, .slice t x (some y) (some z) none, ty, pos, af, g⟩ (.string (s.extract i.toNat l.toNat)) :=
  fun a w hf _ => by
    have hl : 0 ≤ l := by omega
    have el : (l.toNat : Int) = l := Int.toNat_of_nonneg hl
    simp [execOp, hf.eval hx, hf.eval hy, hf.eval hz, run_sliceAt_string (P := Tryz.prog) w t _ _ _ _ hu, Instr.slice, underlying, hu, Instr.sliceBounds, run_sliceBound, h0, h1, h2, hl, el]
/-- Parts of slices; elements have one cell. -/
theorem P.cutL {e b off m c sz : Nat} {j : IntKind} {i : Int} (hu : Tryz.prog.underlying t = some (.slice e)) (hsz : Sized e sz) (hx : ev ρ x = some (.slice (some ⟨b, off, none⟩) m c)) (hy : ev ρ y = some (.int j i)) (h0 : 0 ≤ i) (h1 : i ≤ m) (h2 : i < c) :
    Pure w0 n ρ H ⟨some d, .slice t x (some y) none none, ty, pos, af, g⟩ (.slice (some ⟨b, off + i.toNat * sz, none⟩) (m - i.toNat) (c - i.toNat)) :=
  fun a w hf _ => by
    have hu' : Tryz.prog.underlying t = some (.slice (Tryz.prog.elem t)) := by simp [Program.elem, hu]
    have he : Tryz.prog.elem t = e := by simp [Program.elem, hu]
    have h := run_slice_l (P := Tryz.prog) w t (some ⟨b, off, none⟩) m c hu' j i h0 h1
    rw [he, hsz w] at h
    have hne : ¬ c = i.toNat := by omega
    simp [execOp, hf.eval hx, hf.eval hy, run_sliceAt_slice (P := Tryz.prog) w t _ _ _ _ hu', h, sliced, hne, add0]
theorem P.cutH {e m c : Nat} {A : Option Addr} {j : IntKind} {i : Int} (hu : Tryz.prog.underlying t = some (.slice e)) {sz : Nat} (hsz : Sized e sz) (hx : ev ρ x = some (.slice A m c)) (hy : ev ρ y = some (.int j i)) (h0 : 0 ≤ i) (h1 : i ≤ c) :
    Pure w0 n ρ H ⟨some d, .slice t x none (some y) none, ty, pos, af, g⟩ (.slice A i.toNat c) :=
  fun a w hf _ => by
    have hu' : Tryz.prog.underlying t = some (.slice (Tryz.prog.elem t)) := by simp [Program.elem, hu]
    have he : Tryz.prog.elem t = e := by simp [Program.elem, hu]
    have h := run_slice_h (P := Tryz.prog) w t A m c hu' j i h0 h1
    rw [he, hsz w] at h
    have e0 : (A.map fun x => x.add 0) = A := by cases A <;> simp [Addr.add]
    simp [execOp, hf.eval hx, hf.eval hy, run_sliceAt_slice (P := Tryz.prog) w t _ _ _ _ hu', h, sliced, e0]
theorem P.lenC {ty1 e : TypeId} {A : Option Addr} {m c : Nat} (hu : Tryz.prog.underlying ty1 = some (.slice e)) (hx : ev ρ x = some (.slice A m c)) : Pure w0 n ρ H ⟨some d, .call ⟨.builtin .cap, #[x], #[ty1]⟩, ty, pos, af, g⟩ (.int .i64 c) :=
  fun a w hf _ => by simp [execOp, resolve, invoke, builtin, hf.eval hx, Builtin.cap_, underlying, hu, goInt]
/-- Bits, by a fact about the two numbers. -/
theorem P.bits {op : BinOp} {j : IntKind} {p q r : Int} (hop : (op == .and || op == .or) = true) (hx : ev ρ x = some (.int j p)) (hy : ev ρ y = some (.int j q)) (hr : ∀ w : World, (Op.intBits op j p q).run Tryz.prog w = .ok (.int j r) w) : Pure w0 n ρ H ⟨some d, .binOp op t x y t', ty, pos, af, g⟩ (.int j r) :=
  fun a w hf _ => by
    cases op <;> simp at hop <;> simp [execOp, hf.eval hx, hf.eval hy, eqGuard, binOp, Sem.run_bind, hr w]
theorem P.shl {j j' : IntKind} {p q r : Int} (hx : ev ρ x = some (.int j p)) (hy : ev ρ y = some (.int j' q)) (h0 : 0 ≤ q) (h1 : q ≤ j.bits) (hr : j.wrap (p * 2 ^ q.toNat) = r) : Pure w0 n ρ H ⟨some d, .binOp .shl t x y t', ty, pos, af, g⟩ (.int j r) :=
  fun a w hf _ => by
    have h := shift_shl j j' p q h0 h1
    rw [hr] at h
    simp [execOp, hf.eval hx, hf.eval hy, eqGuard, binOp, h]
theorem P.shr {j j' : IntKind} {p q r : Int} (hx : ev ρ x = some (.int j p)) (hy : ev ρ y = some (.int j' q)) (h0 : 0 ≤ q) (h1 : q ≤ j.bits) (hr : p / 2 ^ q.toNat = r) : Pure w0 n ρ H ⟨some d, .binOp .shr t x y t', ty, pos, af, g⟩ (.int j r) :=
  fun a w hf _ => by
    have h : Op.shift .shr j p j' q = pure (.int j r) := by
      have hm : min q.toNat j.bits = q.toNat := by omega
      have hp : (0 : Int) ≤ 2 ^ q.toNat := Int.pow_nonneg (by decide)
      rw [← hr]
      simp [Op.shift, hm, Int.fdiv_eq_ediv_of_nonneg _ hp]
      omega
    simp [execOp, hf.eval hx, hf.eval hy, eqGuard, binOp, h]
/-- The address of an element of an array. -/
theorem P.elemArr {e b off N sz : Nat} {i : Int} (hu : Tryz.prog.underlying t = some (.array N e)) (hsz : Sized e sz) (hx : ev ρ x = some (.pointer (some ⟨b, off, none⟩))) (hy : ev ρ y = some (.int .i64 i))
    (h0 : 0 ≤ i) (h1 : i < N) : Pure w0 n ρ H ⟨some d, .indexAddr t x y, ty, pos, af, g⟩ (.pointer (some ⟨b, off + i.toNat * sz, none⟩)) :=
  fun a w hf hs => by
    simp [execOp, hf.eval hx, hf.eval hy, Instr.indexAt, Instr.sureAddr, asIntOf, underlying, hu, h0, h1, hsz w, add0]
/-- The first part of an array. -/
theorem P.arrH {e b off N sz : Nat} {i : Int} (hu : Tryz.prog.underlying t = some (.array N e)) (hsz : Sized e sz) (hx : ev ρ x = some (.pointer (some ⟨b, off, none⟩))) (hy : ev ρ y = some (.int .i64 i))
    (h0 : 0 ≤ i) (h1 : i ≤ N) : Pure w0 n ρ H ⟨some d, .slice t x none (some y) none, ty, pos, af, g⟩ (.slice (some ⟨b, off, none⟩) i.toNat N) :=
  fun a w hf hs => by
    simp [execOp, hf.eval hx, hf.eval hy, Instr.sliceAt, Instr.sureAddr, underlying, hu, Instr.sliceBounds, run_sliceBound, h0, h1, hsz w, add0]
/-- Bytes of an own block as a string. -/
theorem P.bytesOwn (j : Nat) {src dst e b off len cap ty' : Nat} {cs : Array Value} {xs : List Int} (hs : Tryz.prog.underlying src = some (.slice e)) (he : Tryz.prog.underlying e = some (.int .u8)) (hd : Tryz.prog.underlying dst = some .string)
    (hx : ev ρ x = some (.slice (some ⟨b, off, none⟩) len cap)) (hj : H[j]? = some (.blk b ty' cs)) (hl : xs.length = len) (hc : ∀ i, i < len → cs[off + i]? = some (.int .u8 (xs.getD i 0))) : Pure w0 n ρ H ⟨some d, .convert src dst x, ty, pos, af, g⟩ (.string (strOfNums xs)) :=
  fun a w hf hst => by
    have hb := (hst.ok j _ hj).2
    have h := run_convert_bytes_arg (P := Tryz.prog) w src e hs he b off len cap xs hl (fun i hi => by rw [cell_blk hb]; exact hc i hi) dst hd
    simp [execOp, hf.eval hx, h]
end
end Go.Proofs.YtlkkiimmangplaaGreatDoor
