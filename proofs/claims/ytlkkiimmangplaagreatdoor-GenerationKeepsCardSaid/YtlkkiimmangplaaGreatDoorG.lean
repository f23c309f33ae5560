/- The steps: what each kind of operation does to the slots and to own memory. -/
import Derived.Test.YtlkkiimmangplaaGreatDoorF
namespace Go.Proofs.YtlkkiimmangplaaGreatDoor
open Go.RowKit



def onB (ops : Array Oper) (ρ : Env) (o : Oper) : Option Bool :=
  match o.guard with
  | none => some true
  | some (j, b) => match (ops[j]?).bind (·.dst) with
    | some s => match Env.find ρ s with
      | some (.bool c) => some (c == b)
      | _ => none
    | none => none

theorem wanted_of {n : Nat} {ρ : Env} {a : Act} {ops : Array Oper} {o : Oper} {b : Bool} (hf : Fits n ρ a) (h : onB ops ρ o = some b) : Region.wanted o (yielded ops a.tmps) = b := by
  unfold onB at h
  unfold Region.wanted
  cases hg : o.guard with
  | none => rw [hg] at h; simpa using h
  | some jb =>
    obtain ⟨j, want⟩ := jb
    rw [hg] at h
    simp only at h ⊢
    cases hs : (ops[j]?).bind (·.dst) with
    | none => rw [hs] at h; simp at h
    | some s =>
      rw [hs] at h
      simp only at h
      cases hv : Env.find ρ s with
      | none => rw [hv] at h; simp at h
      | some v =>
        rw [hv] at h
        have ht := hf.at_ s v hv
        cases v <;> simp at h
        rename_i c
        have hy : yielded ops a.tmps j = some c := by
          unfold yielded
          rw [hs]
          simp [ht]
        rw [hy, ← h]
        cases c <;> cases want <;> rfl

/-- The rest of a region, from any frame and memory that fit. -/
def WL (w0 : World) (n : Nat) (ops : Array Oper) (Q : Exit → Act → World → Prop) (l : List Oper) (ρ : Env) (H : List It) : Prop :=
  ∀ a w, Fits n ρ a → St w0 H w → wpList Tryz.prog ops Q l a w
def WC (w0 : World) (n : Nat) (Q : Exit → Act → World → Prop) (c : Code) (ρ : Env) (H : List It) : Prop :=
  ∀ a w, Fits n ρ a → St w0 H w → c.wp Tryz.prog Q a w
def End (w0 : World) (n : Nat) (Q : Exit → Act → World → Prop) (x : Exit) (ρ : Env) (H : List It) : Prop :=
  ∀ a w, Fits n ρ a → St w0 H w → Q x a w

section
variable {w0 : World} {n : Nat} {ops : Array Oper} {Q : Exit → Act → World → Prop} {o : Oper} {rest : List Oper} {ρ : Env} {H : List It}

theorem WL.nil_ (h : End w0 n Q .normal ρ H) : WL w0 n ops Q [] ρ H := fun a w hf hs => wpList_nil (h a w hf hs)

theorem WL.off (hon : onB ops ρ o = some false) (hd : dlt o.dst n = true) (k : WL w0 n ops Q rest (dput o.dst undef ρ) H) : WL w0 n ops Q (o :: rest) ρ H := fun a w hf hs => by
  unfold wpList
  rw [if_neg (by rw [wanted_of hf hon]; simp)]
  exact k _ _ (hf.dput hd) hs

theorem WL.on (hon : onB ops ρ o = some true) (h : ∀ a w, Fits n ρ a → St w0 H w → o.wp Tryz.prog a w (wpList Tryz.prog ops Q rest) Q) : WL w0 n ops Q (o :: rest) ρ H := fun a w hf hs => by
  unfold wpList
  rw [if_pos (wanted_of hf hon)]
  exact .inl (h a w hf hs)

/-- A value; memory may change to what H' tells. -/
theorem WL.val {d : Nat} {v : Value} {H' : List It} (hon : onB ops ρ o = some true) (ho : o.dst = some d) (hd : Nat.blt d n = true)
    (hr : ∀ a w, Fits n ρ a → St w0 H w → ∃ w', (execOp a.eval o).run Tryz.prog w = .ok (.value v) w' ∧ St w0 H' w') (k : WL w0 n ops Q rest ((d, v) :: ρ) H') : WL w0 n ops Q (o :: rest) ρ H :=
  WL.on hon fun a w hf hs => by
    obtain ⟨w', h1, h2⟩ := hr a w hf hs
    unfold Oper.wp
    rw [h1, Oper.upon_value, ho]
    exact k _ _ (hf.put hd) h2

theorem WL.valx {α : Type} {d : Nat} {v : α → Value} {H' : α → List It} {S : α → Prop} (hon : onB ops ρ o = some true) (ho : o.dst = some d) (hd : Nat.blt d n = true)
    (hr : ∀ a w, Fits n ρ a → St w0 H w → ∃ x w', S x ∧ (execOp a.eval o).run Tryz.prog w = .ok (.value (v x)) w' ∧ St w0 (H' x) w') (k : ∀ x, S x → WL w0 n ops Q rest ((d, v x) :: ρ) (H' x)) : WL w0 n ops Q (o :: rest) ρ H :=
  WL.on hon fun a w hf hs => by
    obtain ⟨x, w', hS, h1, h2⟩ := hr a w hf hs
    unfold Oper.wp
    rw [h1, Oper.upon_value, ho]
    exact k x hS _ _ (hf.put hd) h2

theorem WL.skip_ {H' : List It} (hon : onB ops ρ o = some true) (ho : o.dst = none)
    (hr : ∀ a w, Fits n ρ a → St w0 H w → ∃ w', (execOp a.eval o).run Tryz.prog w = .ok .skip w' ∧ St w0 H' w') (k : WL w0 n ops Q rest ρ H') : WL w0 n ops Q (o :: rest) ρ H :=
  WL.on hon fun a w hf hs => by
    obtain ⟨w', h1, h2⟩ := hr a w hf hs
    unfold Oper.wp
    rw [h1, Oper.upon_skip, ho]
    exact k _ _ hf.none_ h2

/-- Pure: the world as it was. -/
theorem WL.pure_ {d : Nat} {v : Value} (hon : onB ops ρ o = some true) (ho : o.dst = some d) (hd : Nat.blt d n = true)
    (hr : ∀ a w, Fits n ρ a → St w0 H w → (execOp a.eval o).run Tryz.prog w = .ok (.value v) w) (k : WL w0 n ops Q rest ((d, v) :: ρ) H) : WL w0 n ops Q (o :: rest) ρ H :=
  WL.val hon ho hd (fun a w hf hs => ⟨w, hr a w hf hs, hs⟩) k

/-- What an operation yields, without a change of the world, wherever slots and memory fit. -/
def Pure (w0 : World) (n : Nat) (ρ : Env) (H : List It) (o : Oper) (v : Value) : Prop := ∀ a w, Fits n ρ a → St w0 H w → (execOp a.eval o).run Tryz.prog w = .ok (.value v) w
theorem WL.p {d : Nat} {v : Value} (hon : onB ops ρ o = some true) (ho : o.dst = some d) (hd : Nat.blt d n = true) (hr : Pure w0 n ρ H o v) (k : WL w0 n ops Q rest ((d, v) :: ρ) H) : WL w0 n ops Q (o :: rest) ρ H := WL.pure_ hon ho hd hr k

/-- A bool in a slot, both ways. -/
theorem WL.split (s : Nat) {l : List Oper} {c : Bool} (hc : Env.find ρ s = some (.bool c)) (ht : c = true → WL w0 n ops Q l ((s, .bool true) :: ρ) H) (hf : c = false → WL w0 n ops Q l ((s, .bool false) :: ρ) H) : WL w0 n ops Q l ρ H := fun a w hfit hs => by
  have key : ∀ b, c = b → Fits n ((s, .bool b) :: ρ) a := fun b e => ⟨hfit.defers, hfit.size, fun i v hi => by
    unfold Env.find at hi
    cases hq : Nat.beq s i with
    | true =>
      rw [hq] at hi
      simp at hi
      subst hi
      rw [← Nat.eq_of_beq_eq_true hq]
      exact e ▸ hfit.at_ s _ hc
    | false => rw [hq] at hi; exact hfit.at_ i v hi⟩
  cases hcb : c with
  | true => exact ht hcb a w (key true hcb) hs
  | false => exact hf hcb a w (key false hcb) hs

/-- What is known of a slot, in other words. -/
theorem WL.is (s : Nat) {l : List Oper} {v v' : Value} (hc : Env.find ρ s = some v) (e : v = v') (k : WL w0 n ops Q l ((s, v') :: ρ) H) : WL w0 n ops Q l ρ H := fun a w hfit hs => by
  subst e
  refine k a w (hfit.sub (Env.sub_cons hc fun _ _ h => h)) hs

theorem WL.weak {l : List Oper} {ρ' : Env} (h : Env.sub ρ' ρ) (k : WL w0 n ops Q l ρ' H) : WL w0 n ops Q l ρ H := fun a w hf hs => k a w (hf.sub h) hs
theorem WL.mem {l : List Oper} (s : List Nat) (hs : selOk H s = true) (k : WL w0 n ops Q l ρ (sel H s)) : WL w0 n ops Q l ρ H := fun a w hf h => k a w hf (h.sel s hs)

/-! ### Pure operations -/
variable {d : Nat} {ty t t' : TypeId} {pos : String} {af : Array Edge} {g : Option (Nat × Bool)} {x y z : Operand} {v u : Value}

theorem P.move  (hx : ev ρ x = some v) : Pure w0 n ρ H ⟨some d, .move x, ty, pos, af, g⟩ (v) :=
  fun a w hf _ => by simp [execOp, hf.eval hx]
theorem P.assign  (hx : ev ρ x = some v) : Pure w0 n ρ H ⟨some d, .assign x, ty, pos, af, g⟩ (v) :=
  fun a w hf _ => by simp [execOp, hf.eval hx]
theorem P.pickT  (hx : ev ρ x = some (.bool true)) (hy : ev ρ y = some v) : Pure w0 n ρ H ⟨some d, .pick x y z, ty, pos, af, g⟩ (v) :=
  fun a w hf _ => by simp [execOp, hf.eval hx, hf.eval hy, asBool]
theorem P.pickF  (hx : ev ρ x = some (.bool false)) (hz : ev ρ z = some v) : Pure w0 n ρ H ⟨some d, .pick x y z, ty, pos, af, g⟩ (v) :=
  fun a w hf _ => by simp [execOp, hf.eval hx, hf.eval hz, asBool]
theorem P.not_ {b : Bool}  (hx : ev ρ x = some (.bool b)) : Pure w0 n ρ H ⟨some d, .unOp .not t x, ty, pos, af, g⟩ (.bool (!b)) :=
  fun a w hf _ => by simp [execOp, hf.eval hx, Op.unary]
/-- Whole numbers compared. -/
def cmpI : BinOp → Int → Int → Option Bool
  | .eql, a, b => some (a == b)
  | .neq, a, b => some (a != b)
  | .lss, a, b => some (decide (a < b))
  | .leq, a, b => some (decide (a ≤ b))
  | .gtr, a, b => some (decide (b < a))
  | .geq, a, b => some (decide (b ≤ a))
  | _, _, _ => none
theorem P.cmp {op : BinOp} {i : IntKind} {p q : Int} {b : Bool}  (hx : ev ρ x = some (.int i p)) (hy : ev ρ y = some (.int i q)) (hc : cmpI op p q = some b)
    : Pure w0 n ρ H ⟨some d, .binOp op t x y t', ty, pos, af, g⟩ (.bool b) :=
  fun a w hf _ => by
    cases op <;> simp [cmpI] at hc <;> subst hc <;> simp [execOp, hf.eval hx, hf.eval hy, eqGuard, binOp, Op.intCmp]
/-- Sums, differences, products, with a wrap. -/
def ariI : BinOp → Int → Int → Option Int
  | .add, a, b => some (a + b)
  | .sub, a, b => some (a - b)
  | .mul, a, b => some (a * b)
  | _, _, _ => none
theorem P.ari {op : BinOp} {i : IntKind} {p q r : Int}  (hx : ev ρ x = some (.int i p)) (hy : ev ρ y = some (.int i q)) (hc : ariI op p q = some r)
    : Pure w0 n ρ H ⟨some d, .binOp op t x y t', ty, pos, af, g⟩ (.int i (i.wrap r)) :=
  fun a w hf _ => by
    cases op <;> simp [ariI] at hc <;> subst hc <;> simp [execOp, hf.eval hx, hf.eval hy, eqGuard, binOp, Op.intArith]
theorem wrap_in {p : Int} (h : -9223372036854775808 ≤ p ∧ p ≤ 9223372036854775807) : IntKind.i64.wrap p = p := IntWalk.i64_in p h
theorem P.ari64 {op : BinOp} {p q r : Int} (hx : ev ρ x = some (.int .i64 p)) (hy : ev ρ y = some (.int .i64 q)) (hc : ariI op p q = some r)
    (hb : -9223372036854775808 ≤ r ∧ r ≤ 9223372036854775807) : Pure w0 n ρ H ⟨some d, .binOp op t x y t', ty, pos, af, g⟩ (.int .i64 r) := by
  have := P.ari (w0 := w0) (n := n) (H := H) (d := d) (ty := ty) (t := t) (t' := t') (pos := pos) (af := af) (g := g) hx hy hc
  rwa [wrap_in hb] at this
/-- Strings. -/
def cmpS : BinOp → ByteArray → ByteArray → Option Bool
  | .eql, a, b => some (a.toList == b.toList)
  | .neq, a, b => some (!(a.toList == b.toList))
  | .lss, a, b => some (Op.bytesLess a.toList b.toList)
  | _, _, _ => none
theorem P.cmps {op : BinOp} {p q : ByteArray} {b : Bool}  (hx : ev ρ x = some (.string p)) (hy : ev ρ y = some (.string q)) (hc : cmpS op p q = some b)
    : Pure w0 n ρ H ⟨some d, .binOp op t x y t', ty, pos, af, g⟩ (.bool b) :=
  fun a w hf _ => by
    have key : ∀ (op : BinOp) (b : Bool), cmpS op p q = some b → (execOp a.eval ⟨some d, .binOp op t x y t', ty, pos, af, g⟩).run Tryz.prog w = .ok (.value (.bool b)) w := by
      intro op b hc
      cases op <;> simp only [cmpS, Option.some.injEq, reduceCtorEq] at hc <;> subst hc <;> simp [execOp, hf.eval hx, hf.eval hy, eqGuard, binOp, Op.stringOp]
    exact key op b hc
theorem P.cat {p q : ByteArray}  (hx : ev ρ x = some (.string p)) (hy : ev ρ y = some (.string q)) (hb : p.size + q.size ≤ 9223372036854775807)
    : Pure w0 n ρ H ⟨some d, .binOp .add t x y t', ty, pos, af, g⟩ (.string (p ++ q)) :=
  fun a w hf _ => by
    have : ¬ (((p.size + q.size : Nat) : Int) > IntKind.i64.max) := by
      have e : IntKind.i64.max = 9223372036854775807 := rfl
      rw [e]; omega
    simp only [execOp, hf.eval hx, hf.eval hy, eqGuard, binOp, Op.stringOp, if_neg this]
    rfl
/-- Bools compared. -/
theorem P.extract {vs : Array Value} {i : Nat}  (hx : ev ρ x = some (.tuple vs)) (hi : vs[i]? = some v) : Pure w0 n ρ H ⟨some d, .extract x i, ty, pos, af, g⟩ (v) :=
  fun a w hf _ => by simp [execOp, hf.eval hx, Instr.extract, hi]
theorem P.nilCheck {ad : Addr}  (hx : ev ρ x = some (.pointer (some ad))) : Pure w0 n ρ H ⟨some d, .nilCheck x, ty, pos, af, g⟩ (.pointer (some ad)) :=
  fun a w hf _ => by simp [execOp, hf.eval hx]
theorem P.lenS {p : ByteArray} {ty1 : TypeId} (hu : Tryz.prog.underlying ty1 = some .string)  (hx : ev ρ x = some (.string p)) : Pure w0 n ρ H ⟨some d, .call ⟨.builtin .len, #[x], #[ty1]⟩, ty, pos, af, g⟩ (.int .i64 p.size) :=
  fun a w hf _ => by simp [execOp, resolve, invoke, builtin, hf.eval hx, Builtin.len_, underlying, hu, goInt]
theorem P.lenR {ty1 e : TypeId} {A : Option Addr} {m c : Nat} (hu : Tryz.prog.underlying ty1 = some (.slice e))  (hx : ev ρ x = some (.slice A m c)) : Pure w0 n ρ H ⟨some d, .call ⟨.builtin .len, #[x], #[ty1]⟩, ty, pos, af, g⟩ (.int .i64 m) :=
  fun a w hf _ => by simp [execOp, resolve, invoke, builtin, hf.eval hx, Builtin.len_, underlying, hu, goInt]
end

end Go.Proofs.YtlkkiimmangplaaGreatDoor
