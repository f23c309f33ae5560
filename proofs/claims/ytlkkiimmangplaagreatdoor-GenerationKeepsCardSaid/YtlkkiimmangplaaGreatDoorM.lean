/- A region that draws its order and whose operations only read, or call what leaves all as it was: walked in the order of the text. -/
import Derived.Test.YtlkkiimmangplaaGreatDoorL
import Derived.Deep.Quiet
namespace Go.Proofs.YtlkkiimmangplaaGreatDoor
open Go.RowKit
set_option linter.unusedVariables false
set_option linter.unusedSimpArgs false

def WQ (w0 : World) (n : Nat) (ops : Array Oper) (Q : Exit → Act → World → Prop) (l : List Oper) (ρ : Env) (H : List It) : Prop :=
  ∀ a, Fits n ρ a → wpQuiet Tryz.prog ops (St w0 H) (fun a' => ∀ w', St w0 H w' → Q .normal a' w') l a

theorem mixed : Tryz.prog.follows .mixedOrders = true := by kernel_rfl

section
variable {w0 : World} {n : Nat} {ops : Array Oper} {Q : Exit → Act → World → Prop} {o : Oper} {rest : List Oper} {ρ : Env} {H : List It} {id : Nat}
theorem WC.quiet (hB : Region.lexB .any ops = true) (h : WQ w0 n ops Q ops.toList ρ H) : WC w0 n Q (.region id ops true) ρ H := fun a w hf hs =>
  wp_region_quiet (C := St w0 H) mixed hB hs.drew (h a hf)
theorem WQ.nil_ (h : End w0 n Q .normal ρ H) : WQ w0 n ops Q [] ρ H := fun a hf => wpQuiet_nil (fun w' hs => h a w' hf hs)
theorem WQ.off (hon : onB ops ρ o = some false) (hd : dlt o.dst n = true) (k : WQ w0 n ops Q rest (dput o.dst undef ρ) H) : WQ w0 n ops Q (o :: rest) ρ H := fun a hf => by
  unfold wpQuiet
  rw [if_neg (by rw [wanted_of hf hon]; simp)]
  exact k _ (hf.dput hd)
theorem WQ.p {d : Nat} {v : Value} (hon : onB ops ρ o = some true) (ho : o.dst = some d) (hd : Nat.blt d n = true) (hr : Pure w0 n ρ H o v) (k : WQ w0 n ops Q rest ((d, v) :: ρ) H) : WQ w0 n ops Q (o :: rest) ρ H := fun a hf => by
  unfold wpQuiet
  rw [if_pos (wanted_of hf hon)]
  refine ⟨v, fun w hs => ?_, ?_⟩
  · unfold Oper.quietAt
    rw [hr a w hf hs]
    exact ⟨rfl, rfl⟩
  · rw [ho]
    exact k _ (hf.put hd)
theorem WQ.split (s : Nat) {l : List Oper} {c : Bool} (hc : Env.find ρ s = some (.bool c)) (ht : c = true → WQ w0 n ops Q l ((s, .bool true) :: ρ) H) (hf : c = false → WQ w0 n ops Q l ((s, .bool false) :: ρ) H) : WQ w0 n ops Q l ρ H := fun a hfit => by
  cases hcb : c with
  | true => exact ht hcb a (hfit.sub (Env.sub_cons (hcb ▸ hc) fun _ _ h => h))
  | false => exact hf hcb a (hfit.sub (Env.sub_cons (hcb ▸ hc) fun _ _ h => h))
theorem WQ.is (s : Nat) {l : List Oper} {v v' : Value} (hc : Env.find ρ s = some v) (e : v = v') (k : WQ w0 n ops Q l ((s, v') :: ρ) H) : WQ w0 n ops Q l ρ H := fun a hfit => by
  subst e
  exact k a (hfit.sub (Env.sub_cons hc fun _ _ h => h))
theorem WQ.callG {d : Nat} {u : Value} {f : FuncId} {xs : List Operand} {vs : List Value} {ats : Array TypeId} {cal : Operand} {cap : Array Value} (he : Ent f) (ho : o.op = .call ⟨.value cal, xs.toArray, ats⟩) (hdst : o.dst = some d)
    (hon : onB ops ρ o = some true) (hd : Nat.blt d n = true) (hcal : ev ρ cal = some (.func (.func f) #[] cap)) (hx : evl ρ xs = some vs)
    (hc : ∀ w, St w0 H w → Calls Tryz.prog f (vs.toArray ++ cap) w (RetV w u)) (k : WQ w0 n ops Q rest ((d, u) :: ρ) H) : WQ w0 n ops Q (o :: rest) ρ H := fun a hf => by
  have hmap : xs.toArray.map a.eval = vs.toArray := by rw [List.map_toArray, hf.evals hx]
  have hrun : ∀ w, (execOp a.eval o).run Tryz.prog w = .ok (.enter f (vs.toArray ++ cap)) w := fun w => by
    simp [execOp, ho, resolve, hf.eval hcal, hmap, Deferred.ofValue, invoke, Sem.run_bind, he (vs.toArray ++ cap) w]
  unfold wpQuiet
  rw [if_pos (wanted_of hf hon)]
  refine ⟨u, fun w hs => ?_, ?_⟩
  · unfold Oper.quietAt
    rw [hrun w]
    exact ⟨rfl, (hc w hs).mono fun e w' ⟨h1, h2⟩ => ⟨h1, by simpa using hs.call h2⟩⟩
  · rw [hdst]
    exact k _ (hf.put hd)
variable {d : Nat} {ty t : TypeId} {pos : String} {af : Array Edge} {g : Option (Nat × Bool)} {x y z : Operand}
theorem WQ.callv {u : Value} {f : FuncId} {xs : List Operand} {vs : List Value} {ats : Array TypeId} (he : Ent f)
    (hon : onB ops ρ ⟨some d, .call ⟨.value (.func f), xs.toArray, ats⟩, ty, pos, af, g⟩ = some true) (hd : Nat.blt d n = true) (hx : evl ρ xs = some vs)
    (hc : ∀ w, St w0 H w → Calls Tryz.prog f vs.toArray w (RetV w u))
    (k : WQ w0 n ops Q rest ((d, u) :: ρ) H) : WQ w0 n ops Q (⟨some d, .call ⟨.value (.func f), xs.toArray, ats⟩, ty, pos, af, g⟩ :: rest) ρ H :=
  WQ.callG (cap := #[]) he rfl rfl hon hd rfl hx (fun w hs => by rw [Array.append_empty]; exact hc w hs) k
theorem WQ.callc {u : Value} {f : FuncId} {xs : List Operand} {vs : List Value} {ats : Array TypeId} {cap : Array Value} (he : Ent f)
    (hon : onB ops ρ ⟨some d, .call ⟨.value x, xs.toArray, ats⟩, ty, pos, af, g⟩ = some true) (hd : Nat.blt d n = true) (hcal : ev ρ x = some (.func (.func f) #[] cap)) (hx : evl ρ xs = some vs)
    (hc : ∀ w, St w0 H w → Calls Tryz.prog f (vs.toArray ++ cap) w (RetV w u))
    (k : WQ w0 n ops Q rest ((d, u) :: ρ) H) : WQ w0 n ops Q (⟨some d, .call ⟨.value x, xs.toArray, ats⟩, ty, pos, af, g⟩ :: rest) ρ H :=
  WQ.callG he rfl rfl hon hd hcal hx hc k
end
end Go.Proofs.YtlkkiimmangplaaGreatDoor
