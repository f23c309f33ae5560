/- Calls, and the rules for code: sequences, tests, blocks, loops, the function's begin and end. -/
import Derived.Test.YtlkkiimmangplaaGreatDoorH
namespace Go.Proofs.YtlkkiimmangplaaGreatDoor
open Go.RowKit
set_option linter.unusedVariables false
set_option linter.unusedSimpArgs false

def Ent (f : FuncId) : Prop := ∀ (args : Array Value) (w : World), (callFunc f args).run Tryz.prog w = .ok (.enter f args) w
theorem ent_of {f : FuncId} {fn : Func} {c : Code} (hf : Tryz.prog.funcs[f]? = some fn) (hname : (fn.name == "runtime.NumGoroutine") = false) (hb : fn.body = some c) : Ent f := by
  intro args w
  have h1 : fn.name ≠ "runtime.NumGoroutine" := by simpa using hname
  simp [callFunc, hf, h1, hb, mark]

/-- What a call hands back. -/
def Ret {α : Type} (w : World) (S : α → Prop) (v : α → Value) (Hn : α → List It) : Ending → World → Prop := fun e w' => ∃ x, S x ∧ e = .returned (v x) ∧ St w (Hn x) w'
def RetV (w : World) (u : Value) : Ending → World → Prop := fun e w' => e = .returned u ∧ St w [] w'

section
variable {w0 : World} {n : Nat} {ops : Array Oper} {Q : Exit → Act → World → Prop} {rest : List Oper} {ρ : Env} {H : List It}
variable {d : Nat} {ty t : TypeId} {pos : String} {af : Array Edge} {g : Option (Nat × Bool)} {x y z : Operand}

theorem WL.callG {α : Type} {o : Oper} {f : FuncId} {xs : List Operand} {vs : List Value} {ats : Array TypeId} {cal : Operand} {cap : Array Value} {S : α → Prop} {v : α → Value} {H' : α → List It} (he : Ent f) (ho : o.op = .call ⟨.value cal, xs.toArray, ats⟩) (hdst : o.dst = some d)
    (hon : onB ops ρ o = some true) (hd : Nat.blt d n = true) (hcal : ev ρ cal = some (.func (.func f) #[] cap)) (hx : evl ρ xs = some vs)
    (hc : ∀ w, St w0 H w → Calls Tryz.prog f (vs.toArray ++ cap) w (fun e w' => ∃ x, S x ∧ e = .returned (v x) ∧ St w0 (H' x) w'))
    (k : ∀ x, S x → WL w0 n ops Q rest ((d, v x) :: ρ) (H' x)) : WL w0 n ops Q (o :: rest) ρ H :=
  WL.on hon fun a w hf hs => by
    have hmap : xs.toArray.map a.eval = vs.toArray := by rw [List.map_toArray, hf.evals hx]
    have hrun : (execOp a.eval o).run Tryz.prog w = .ok (.enter f (vs.toArray ++ cap)) w := by
      simp [execOp, ho, resolve, hf.eval hcal, hmap, Deferred.ofValue, invoke, Sem.run_bind, he (vs.toArray ++ cap) w]
    unfold Oper.wp
    rw [hrun, Oper.upon_enter, hdst]
    refine (hc w hs).mono fun e w' h => ?_
    obtain ⟨q, hS, rfl, hst⟩ := h
    exact k q hS _ _ (hf.put hd) hst

/-- A call of a known function that leaves all as it was and lays Hn. -/
theorem WL.callx {α : Type} {f : FuncId} {xs : List Operand} {vs : List Value} {ats : Array TypeId} {S : α → Prop} {v : α → Value} {Hn : α → List It} (he : Ent f)
    (hon : onB ops ρ ⟨some d, .call ⟨.value (.func f), xs.toArray, ats⟩, ty, pos, af, g⟩ = some true) (hd : Nat.blt d n = true) (hx : evl ρ xs = some vs)
    (hc : ∀ w, St w0 H w → Calls Tryz.prog f vs.toArray w (Ret w S v Hn))
    (k : ∀ x, S x → WL w0 n ops Q rest ((d, v x) :: ρ) (Hn x ++ H)) : WL w0 n ops Q (⟨some d, .call ⟨.value (.func f), xs.toArray, ats⟩, ty, pos, af, g⟩ :: rest) ρ H :=
  WL.callG (cap := #[]) (H' := fun x => Hn x ++ H) he rfl rfl hon hd rfl hx (fun w hs => by
    rw [Array.append_empty]
    exact (hc w hs).mono fun e w' ⟨q, h1, h2, h3⟩ => ⟨q, h1, h2, hs.call h3⟩) k
theorem WL.callv {u : Value} {f : FuncId} {xs : List Operand} {vs : List Value} {ats : Array TypeId} (he : Ent f)
    (hon : onB ops ρ ⟨some d, .call ⟨.value (.func f), xs.toArray, ats⟩, ty, pos, af, g⟩ = some true) (hd : Nat.blt d n = true) (hx : evl ρ xs = some vs)
    (hc : ∀ w, St w0 H w → Calls Tryz.prog f vs.toArray w (RetV w u))
    (k : WL w0 n ops Q rest ((d, u) :: ρ) H) : WL w0 n ops Q (⟨some d, .call ⟨.value (.func f), xs.toArray, ats⟩, ty, pos, af, g⟩ :: rest) ρ H :=
  WL.callG (α := Unit) (S := fun _ => True) (v := fun _ => u) (cap := #[]) (H' := fun _ => H) he rfl rfl hon hd rfl hx (fun w hs => by
    rw [Array.append_empty]
    exact (hc w hs).mono fun e w' ⟨h2, h3⟩ => ⟨(), trivial, h2, by simpa using hs.call h3⟩) (fun _ _ => k)
/-- A call of a function that changes own memory. -/
theorem WL.callm {α : Type} {f : FuncId} {xs : List Operand} {vs : List Value} {ats : Array TypeId} {S : α → Prop} {v : α → Value} {H' : α → List It} (he : Ent f)
    (hon : onB ops ρ ⟨some d, .call ⟨.value (.func f), xs.toArray, ats⟩, ty, pos, af, g⟩ = some true) (hd : Nat.blt d n = true) (hx : evl ρ xs = some vs)
    (hc : ∀ w, St w0 H w → Calls Tryz.prog f vs.toArray w (fun e w' => ∃ x, S x ∧ e = .returned (v x) ∧ St w0 (H' x) w'))
    (k : ∀ x, S x → WL w0 n ops Q rest ((d, v x) :: ρ) (H' x)) : WL w0 n ops Q (⟨some d, .call ⟨.value (.func f), xs.toArray, ats⟩, ty, pos, af, g⟩ :: rest) ρ H :=
  WL.callG (cap := #[]) he rfl rfl hon hd rfl hx (fun w hs => by rw [Array.append_empty]; exact hc w hs) k
/-- A call through a function value in a slot. -/
theorem WL.callc {u : Value} {f : FuncId} {xs : List Operand} {vs : List Value} {ats : Array TypeId} {cap : Array Value} (he : Ent f)
    (hon : onB ops ρ ⟨some d, .call ⟨.value x, xs.toArray, ats⟩, ty, pos, af, g⟩ = some true) (hd : Nat.blt d n = true) (hcal : ev ρ x = some (.func (.func f) #[] cap)) (hx : evl ρ xs = some vs)
    (hc : ∀ w, St w0 H w → Calls Tryz.prog f (vs.toArray ++ cap) w (RetV w u))
    (k : WL w0 n ops Q rest ((d, u) :: ρ) H) : WL w0 n ops Q (⟨some d, .call ⟨.value x, xs.toArray, ats⟩, ty, pos, af, g⟩ :: rest) ρ H :=
  WL.callG (α := Unit) (S := fun _ => True) (v := fun _ => u) (H' := fun _ => H) he rfl rfl hon hd hcal hx (fun w hs =>
    (hc w hs).mono fun e w' ⟨h2, h3⟩ => ⟨(), trivial, h2, by simpa using hs.call h3⟩) (fun _ _ => k)

theorem P.makeFunc {f : FuncId} {xs : List Operand} {vs : List Value}  (hx : evl ρ xs = some vs)
    : Pure w0 n ρ H ⟨some d, .makeFunc (.func f) #[] xs.toArray, ty, pos, af, g⟩ (.func (.func f) #[] vs.toArray) :=
  fun a w hf hs => by
    have hmap : xs.toArray.map a.eval = vs.toArray := by rw [List.map_toArray, hf.evals hx]
    simp [execOp, Instr.makeFunc, hmap]
/-! ### Code -/
variable {c c1 c2 : Code} {id : Nat}
theorem WC.seq (h : WC w0 n (Exit.then (c2.wp Tryz.prog Q) Q) c1 ρ H) : WC w0 n Q (.seq c1 c2) ρ H := fun a w hf hs => wp_seq (h a w hf hs)
theorem WC.region (h : WL w0 n ops Q ops.toList ρ H) : WC w0 n Q (.region id ops false) ρ H := fun a w hf hs => wp_region_list (h a w hf hs)
theorem WC.cond {b : Bool} (hc : ev ρ x = some (.bool b)) (ht : b = true → WC w0 n Q c1 ρ H) (hf : b = false → WC w0 n Q c2 ρ H) : WC w0 n Q (.cond x c1 c2) ρ H := fun a w hfit hs =>
  wp_cond_split (hfit.eval hc) (fun e => ht e a w hfit hs) (fun e => hf e a w hfit hs)
theorem WC.condT (hc : ev ρ x = some (.bool true)) (ht : WC w0 n Q c1 ρ H) : WC w0 n Q (.cond x c1 c2) ρ H := fun a w hfit hs => wp_cond_true (hfit.eval hc) (ht a w hfit hs)
theorem WC.condF (hc : ev ρ x = some (.bool false)) (hf : WC w0 n Q c2 ρ H) : WC w0 n Q (.cond x c1 c2) ρ H := fun a w hfit hs => wp_cond_false (hfit.eval hc) (hf a w hfit hs)
theorem WC.skip (h : End w0 n Q .normal ρ H) : WC w0 n Q .skip ρ H := fun a w hf hs => wp_skip (h a w hf hs)
theorem WC.exit (h : End w0 n Q (.exit id) ρ H) : WC w0 n Q (.exit id) ρ H := fun a w hf hs => wp_exit (h a w hf hs)
theorem WC.ret (h : End w0 n Q .ret ρ H) : WC w0 n Q .ret ρ H := fun a w hf hs => wp_ret (h a w hf hs)
theorem WC.block (h : WC w0 n (Exit.inBlock id Q) c ρ H) : WC w0 n Q (.block id c) ρ H := fun a w hf hs => wp_block (h a w hf hs)
theorem WC.weak {ρ' : Env} (h : Env.sub ρ' ρ) (k : WC w0 n Q c ρ' H) : WC w0 n Q c ρ H := fun a w hf hs => k a w (hf.sub h) hs
theorem WC.mem (l : List Nat) (hl : selOk H l = true) (k : WC w0 n Q c ρ (sel H l)) : WC w0 n Q c ρ H := fun a w hf h => k a w hf (h.sel l hl)

theorem End.seq (h : WC w0 n Q c ρ H) : End w0 n (Exit.then (c.wp Tryz.prog Q) Q) .normal ρ H := fun a w hf hs => h a w hf hs
theorem End.thenR {K : Act → World → Prop} (h : End w0 n Q .ret ρ H) : End w0 n (Exit.then K Q) .ret ρ H := fun a w hf hs => h a w hf hs
theorem End.thenX {K : Act → World → Prop} (h : End w0 n Q (.exit id) ρ H) : End w0 n (Exit.then K Q) (.exit id) ρ H := fun a w hf hs => h a w hf hs
theorem End.blkN (h : End w0 n Q .normal ρ H) : End w0 n (Exit.inBlock id Q) .normal ρ H := fun a w hf hs => h a w hf hs
theorem End.blkR (h : End w0 n Q .ret ρ H) : End w0 n (Exit.inBlock id Q) .ret ρ H := fun a w hf hs => h a w hf hs
theorem End.blkX (h : End w0 n Q .normal ρ H) : End w0 n (Exit.inBlock id Q) (.exit id) ρ H := fun a w hf hs => by
  simp only [Exit.inBlock, if_true]
  exact h a w hf hs
theorem End.blkY {id' : Nat} (hne : Nat.beq id' id = false) (h : End w0 n Q (.exit id') ρ H) : End w0 n (Exit.inBlock id Q) (.exit id') ρ H := fun a w hf hs => by
  have : ¬ id' = id := fun e => by subst e; simp at hne
  simp only [Exit.inBlock, if_neg this]
  exact h a w hf hs

/-! ### Loops and cuts -/
def At {σ : Type} (w0 : World) (n : Nat) (R : σ → Env) (M : σ → List It) (S : σ → Prop) (a : Act) (w : World) : Prop := ∃ s, S s ∧ Fits n (R s) a ∧ St w0 (M s) w
theorem End.at_ {σ : Type} {R : σ → Env} {M : σ → List It} {S : σ → Prop} (s : σ) (hS : S s) (hρ : Env.sub (R s) ρ) (l : List Nat) (hl : selOk H l = true) (hH : sel H l = M s) : End w0 n (Exit.then (At w0 n R M S) Q) .normal ρ H := fun a w hf hs =>
  ⟨s, hS, hf.sub hρ, hH ▸ hs.sel l hl⟩
theorem WC.cut {σ : Type} (R : σ → Env) (M : σ → List It) (S : σ → Prop) (h1 : WC w0 n (Exit.then (At w0 n R M S) Q) c1 ρ H) (h2 : ∀ s, S s → WC w0 n Q c2 (R s) (M s)) : WC w0 n Q (.seq c1 c2) ρ H := fun a w hf hs =>
  wp_seq (wp_mono (h1 a w hf hs) fun e a' w' hq => by
    cases e with
    | normal => obtain ⟨s, hS, hf', hs'⟩ := hq; exact h2 s hS _ _ hf' hs'
    | _ => exact hq)
def Again {σ : Type} (w0 : World) (n : Nat) (R : σ → Env) (M : σ → List It) (S : σ → Prop) (μ : σ → Nat) (s : σ) (a : Act) (w : World) : Prop := ∃ s', S s' ∧ μ s' < μ s ∧ Fits n (R s') a ∧ St w0 (M s') w
theorem End.again {σ : Type} {R : σ → Env} {M : σ → List It} {S : σ → Prop} {μ : σ → Nat} {s : σ} (s' : σ) (hS : S s') (hμ : μ s' < μ s) (hρ : Env.sub (R s') ρ) (l : List Nat) (hl : selOk H l = true) (hH : sel H l = M s') : End w0 n (Exit.then (Again w0 n R M S μ s) Q) .normal ρ H := fun a w hf hs =>
  ⟨s', hS, hμ, hf.sub hρ, hH ▸ hs.sel l hl⟩
theorem WC.loop {σ : Type} (R : σ → Env) (M : σ → List It) (S : σ → Prop) (μ : σ → Nat) (s0 : σ) (hS : S s0) (hρ : Env.sub (R s0) ρ) (l : List Nat) (hl : selOk H l = true) (hH : sel H l = M s0)
    (round : ∀ s, S s → WC w0 n (Exit.then (Again w0 n R M S μ s) Q) c (R s) (M s)) : WC w0 n Q (.loop c) ρ H := fun a w hf hs => by
  refine Go.wp_loop_ghost (fun m a w => ∃ s, S s ∧ μ s = m ∧ Fits n (R s) a ∧ St w0 (M s) w) (μ s0) ⟨s0, hS, rfl, hf.sub hρ, hH ▸ hs.sel l hl⟩ ?_
  rintro m a w ⟨s, hS, rfl, hf, hs⟩
  refine wp_mono (round s hS a w hf hs) fun e a' w' hq => ?_
  cases e with
  | normal =>
    obtain ⟨s', h1, h2, h3, h4⟩ := hq
    exact ⟨μ s', h2, s', h1, rfl, h3, h4⟩
  | _ => exact hq

/-! ### Begin and end -/
def argEnv : Nat → List Value → Env
  | _, [] => []
  | k, v :: r => (k, v) :: argEnv (k + 1) r
theorem argEnv_find : ∀ (vs : List Value) (k i : Nat) (v : Value), Env.find (argEnv k vs) i = some v → k ≤ i ∧ vs[i - k]? = some v
  | [], k, i, v, h => by simp [argEnv, Env.find] at h
  | u :: r, k, i, v, h => by
    simp only [argEnv, Env.find] at h
    cases hq : Nat.beq k i with
    | true =>
      rw [hq] at h
      simp at h
      have := Nat.eq_of_beq_eq_true hq
      subst this; subst h
      simp
    | false =>
      rw [hq] at h
      obtain ⟨h1, h2⟩ := argEnv_find r (k + 1) i v h
      refine ⟨by omega, ?_⟩
      rw [show i - k = (i - (k + 1)) + 1 by omega]
      simpa using h2

theorem enter {f : FuncId} {fn : Func} {vs : List Value} {w : World} {R : Ending → World → Prop} (hf : Tryz.prog.funcs[f]? = some fn) (hb : fn.body = some c) (hn : fn.ntmps = n) (hl : Nat.ble vs.length n = true) (h : WC w n (bodyPost Tryz.prog fn R) c (argEnv 0 vs) []) :
    Calls Tryz.prog f vs.toArray w R := by
  have hl' : vs.length ≤ n := by simpa using hl
  refine calls_of_wp hf hb (h _ w ⟨rfl, ?_, fun i v hi => ?_⟩ (St.refl w))
  · simp [hn]; omega
  · obtain ⟨_, h2⟩ := argEnv_find vs 0 i v hi
    have h3 : vs.toArray[i]? = some v := by simpa using h2
    have hlt : i < vs.toArray.size := (Array.getElem?_eq_some_iff.1 h3).1
    simp only
    rw [Array.getElem?_append_left hlt]
    exact h3

theorem run_loadVar_cell {ty : TypeId} (hag : NoAgg ty) {w : World} {ad : Addr} {v : Value} (hc : w.cell? ad = some v) : (loadVar ty ad).run Tryz.prog w = .ok v w := by
  simp [loadVar, Sem.run_bind, hag w, hc]
theorem run_loadVar_blk {ty t' : TypeId} {sz : Nat} (hag : YesAgg ty) (hsz : Sized ty sz) {w : World} {b : Nat} {cs : Array Value} (hb : w.heap[b]? = some (.cells cs t' (0, 0))) (hv : cs.size = sz) : (loadVar ty ⟨b, 0, none⟩).run Tryz.prog w = .ok (.agg cs) w := by
  have := run_loadAt_agg hag hsz (o := 0) (vs := cs) hb hv (fun j _ => by rw [Nat.zero_add])
  simpa [Instr.loadAt, Instr.sureAddr] using this

variable {fn : Func} {R : Ending → World → Prop}
theorem getD_of {tm : Array Value} {p : Nat} {v : Value} (h : tm[p]? = some v) : tm.getD p undef = v := by simp [h]

theorem End.ret0 (hr : fn.results = #[]) (h : ∀ w, St w0 H w → R (.returned (.tuple #[])) w) : End w0 n (bodyPost Tryz.prog fn R) .ret ρ H := fun a w hf hs =>
  ⟨hf.defers, _, by simp [results, hr], h w hs⟩
theorem End.ret1 {p : Nat} {v : Value} (hr : fn.results = #[.tmp p]) (hp : Env.find ρ p = some v) (h : ∀ w, St w0 H w → R (.returned v) w) : End w0 n (bodyPost Tryz.prog fn R) .ret ρ H := fun a w hf hs =>
  ⟨hf.defers, v, by simp [results, hr, hf.at_ p v hp], h w hs⟩
theorem End.ret2 {p q : Nat} {v u : Value} (hr : fn.results = #[.tmp p, .tmp q]) (hp : Env.find ρ p = some v) (hq : Env.find ρ q = some u) (h : ∀ w, St w0 H w → R (.returned (.tuple #[v, u])) w) : End w0 n (bodyPost Tryz.prog fn R) .ret ρ H := fun a w hf hs =>
  ⟨hf.defers, .tuple #[v, u], by simp [results, hr, hf.at_ p v hp, hf.at_ q u hq], h w hs⟩
theorem End.ret3 {p q r : Nat} {v u s : Value} (hr : fn.results = #[.tmp p, .tmp q, .tmp r]) (hp : Env.find ρ p = some v) (hq : Env.find ρ q = some u) (hs' : Env.find ρ r = some s) (h : ∀ w, St w0 H w → R (.returned (.tuple #[v, u, s])) w) : End w0 n (bodyPost Tryz.prog fn R) .ret ρ H := fun a w hf hs =>
  ⟨hf.defers, .tuple #[v, u, s], by simp [results, hr, hf.at_ p v hp, hf.at_ q u hq, hf.at_ r s hs'], h w hs⟩
theorem End.retC {p b ty t' sz : Nat} {cs : Array Value} (j : Nat) (hr : fn.results = #[.cell p ty]) (hag : YesAgg ty) (hsz : Sized ty sz) (hp : Env.find ρ p = some (.pointer (some ⟨b, 0, none⟩))) (hj : H[j]? = some (.blk b t' cs)) (hv : cs.size = sz) (h : ∀ w, St w0 H w → R (.returned (.agg cs)) w) :
    End w0 n (bodyPost Tryz.prog fn R) .ret ρ H := fun a w hf hs =>
  ⟨hf.defers, .agg cs, by simp [results, hr, hf.at_ p _ hp, asAddr, run_loadVar_blk hag hsz (hs.ok j _ hj).2 hv], h w hs⟩
theorem End.retCT {p q b ty t' sz : Nat} {cs : Array Value} {u : Value} (j : Nat) (hr : fn.results = #[.cell p ty, .tmp q]) (hag : YesAgg ty) (hsz : Sized ty sz) (hp : Env.find ρ p = some (.pointer (some ⟨b, 0, none⟩))) (hj : H[j]? = some (.blk b t' cs)) (hv : cs.size = sz) (hq : Env.find ρ q = some u)
    (h : ∀ w, St w0 H w → R (.returned (.tuple #[.agg cs, u])) w) : End w0 n (bodyPost Tryz.prog fn R) .ret ρ H := fun a w hf hs =>
  ⟨hf.defers, .tuple #[.agg cs, u], by simp [results, hr, hf.at_ p _ hp, hf.at_ q _ hq, asAddr, run_loadVar_blk hag hsz (hs.ok j _ hj).2 hv], h w hs⟩
theorem End.retTC {p q b ty t' sz : Nat} {cs : Array Value} {u : Value} (j : Nat) (hr : fn.results = #[.tmp q, .cell p ty]) (hag : YesAgg ty) (hsz : Sized ty sz) (hp : Env.find ρ p = some (.pointer (some ⟨b, 0, none⟩))) (hj : H[j]? = some (.blk b t' cs)) (hv : cs.size = sz) (hq : Env.find ρ q = some u)
    (h : ∀ w, St w0 H w → R (.returned (.tuple #[u, .agg cs])) w) : End w0 n (bodyPost Tryz.prog fn R) .ret ρ H := fun a w hf hs =>
  ⟨hf.defers, .tuple #[u, .agg cs], by simp [results, hr, hf.at_ p _ hp, hf.at_ q _ hq, asAddr, run_loadVar_blk hag hsz (hs.ok j _ hj).2 hv], h w hs⟩
theorem End.retCTT {p q r b ty t' sz : Nat} {cs : Array Value} {u v : Value} (j : Nat) (hr : fn.results = #[.cell p ty, .tmp q, .tmp r]) (hag : YesAgg ty) (hsz : Sized ty sz) (hp : Env.find ρ p = some (.pointer (some ⟨b, 0, none⟩))) (hj : H[j]? = some (.blk b t' cs)) (hv : cs.size = sz) (hq : Env.find ρ q = some u) (hr' : Env.find ρ r = some v)
    (h : ∀ w, St w0 H w → R (.returned (.tuple #[.agg cs, u, v])) w) : End w0 n (bodyPost Tryz.prog fn R) .ret ρ H := fun a w hf hs =>
  ⟨hf.defers, .tuple #[.agg cs, u, v], by simp [results, hr, hf.at_ p _ hp, hf.at_ q _ hq, hf.at_ r _ hr', asAddr, run_loadVar_blk hag hsz (hs.ok j _ hj).2 hv], h w hs⟩
theorem End.retCTTT {p q r s b ty t' sz : Nat} {cs : Array Value} {u v z : Value} (j : Nat) (hr : fn.results = #[.cell p ty, .tmp q, .tmp r, .tmp s]) (hag : YesAgg ty) (hsz : Sized ty sz) (hp : Env.find ρ p = some (.pointer (some ⟨b, 0, none⟩))) (hj : H[j]? = some (.blk b t' cs)) (hv : cs.size = sz) (hq : Env.find ρ q = some u) (hr' : Env.find ρ r = some v) (hs' : Env.find ρ s = some z)
    (h : ∀ w, St w0 H w → R (.returned (.tuple #[.agg cs, u, v, z])) w) : End w0 n (bodyPost Tryz.prog fn R) .ret ρ H := fun a w hf hs =>
  ⟨hf.defers, .tuple #[.agg cs, u, v, z], by simp [results, hr, hf.at_ p _ hp, hf.at_ q _ hq, hf.at_ r _ hr', hf.at_ s _ hs', asAddr, run_loadVar_blk hag hsz (hs.ok j _ hj).2 hv], h w hs⟩
theorem End.retCCT {p q r b b' ty t1 t2 sz : Nat} {cs ds : Array Value} {u : Value} (j i : Nat) (hr : fn.results = #[.cell p ty, .cell q ty, .tmp r]) (hag : YesAgg ty) (hsz : Sized ty sz) (hp : Env.find ρ p = some (.pointer (some ⟨b, 0, none⟩))) (hj : H[j]? = some (.blk b t1 cs)) (hv : cs.size = sz)
    (hq : Env.find ρ q = some (.pointer (some ⟨b', 0, none⟩))) (hi : H[i]? = some (.blk b' t2 ds)) (hv' : ds.size = sz) (hr' : Env.find ρ r = some u)
    (h : ∀ w, St w0 H w → R (.returned (.tuple #[.agg cs, .agg ds, u])) w) : End w0 n (bodyPost Tryz.prog fn R) .ret ρ H := fun a w hf hs =>
  ⟨hf.defers, .tuple #[.agg cs, .agg ds, u], by simp [results, hr, hf.at_ p _ hp, hf.at_ q _ hq, hf.at_ r _ hr', asAddr, run_loadVar_blk hag hsz (hs.ok j _ hj).2 hv, run_loadVar_blk hag hsz (hs.ok i _ hi).2 hv'], h w hs⟩
theorem End.norm (h : End w0 n (bodyPost Tryz.prog fn R) .ret ρ H) : End w0 n (bodyPost Tryz.prog fn R) .normal ρ H := fun a w hf hs => h a w hf hs
end
/-! ### A loop over the slots as they are: some of them told anew each round -/
def freshB (τ δ ρ : Env) : Bool := τ.all fun e => δ.any (fun q => Nat.beq q.1 e.1) || (Env.find ρ e.1).isNone
theorem Env.find_app {ρ τ : Env} {i : Nat} : Env.find (τ ++ ρ) i = (match Env.find τ i with | some v => some v | none => Env.find ρ i) := by
  induction τ with
  | nil => rfl
  | cons e r ih =>
    obtain ⟨k, v⟩ := e
    simp only [List.cons_append, Env.find]
    cases Nat.beq k i with
    | true => rfl
    | false => simpa using ih
theorem Env.find_mem {τ : Env} {i : Nat} {v : Value} (h : Env.find τ i = some v) : (i, v) ∈ τ := by
  induction τ with
  | nil => cases h
  | cons e r ih =>
    obtain ⟨k, u⟩ := e
    unfold Env.find at h
    cases hq : Nat.beq k i with
    | true =>
      rw [hq] at h
      simp at h
      rw [← Nat.eq_of_beq_eq_true hq, h]
      exact List.mem_cons_self
    | false => rw [hq] at h; exact List.mem_cons_of_mem _ (ih h)
theorem Env.find_none {τ : Env} {i : Nat} (h : Env.find τ i = none) : ∀ e ∈ τ, Nat.beq e.1 i = false := by
  induction τ with
  | nil => intro e he; cases he
  | cons e r ih =>
    obtain ⟨k, u⟩ := e
    unfold Env.find at h
    cases hq : Nat.beq k i with
    | true => rw [hq] at h; cases h
    | false =>
      rw [hq] at h
      intro e' he'
      rcases List.mem_cons.1 he' with rfl | he'
      · exact hq
      · exact ih h e' he'
theorem Env.sub_ext {δ ρ ρe : Env} (h1 : ρe.drop (ρe.length - ρ.length) = ρ) (hδ : Env.sub δ ρe) (hk : freshB (ρe.take (ρe.length - ρ.length)) δ ρ = true) : Env.sub (δ ++ ρ) ρe := fun i v hi => by
  rw [Env.find_app] at hi
  cases hq : Env.find δ i with
  | some u =>
    rw [hq] at hi
    simp at hi
    subst hi
    exact hδ i u hq
  | none =>
    rw [hq] at hi
    simp only at hi
    have he : ρe = ρe.take (ρe.length - ρ.length) ++ ρ := by
      conv => lhs; rw [← List.take_append_drop (ρe.length - ρ.length) ρe, h1]
    rw [he, Env.find_app]
    cases ht : Env.find (ρe.take (ρe.length - ρ.length)) i with
    | none => exact hi
    | some u =>
      exfalso
      have hm := Env.find_mem ht
      have h2 := List.all_eq_true.1 hk _ hm
      simp only [Bool.or_eq_true, List.any_eq_true] at h2
      rcases h2 with ⟨q, hq1, hq2⟩ | h2
      · have := Env.find_none hq q hq1
        rw [this] at hq2
        cases hq2
      · rw [hi] at h2
        cases h2

section
variable {w0 : World} {n : Nat} {Q : Exit → Act → World → Prop} {ρ : Env} {H : List It} {c c1 c2 : Code}
theorem WC.loopD {σ : Type} (D : σ → Env) (M : σ → List It) (S : σ → Prop) (μ : σ → Nat) (s0 : σ) (hS : S s0) (hρ : Env.sub (D s0) ρ) (l : List Nat) (hl : selOk H l = true) (hH : sel H l = M s0)
    (round : ∀ s, S s → WC w0 n (Exit.then (Again w0 n (fun s => D s ++ ρ) M S μ s) Q) c (D s ++ ρ) (M s)) : WC w0 n Q (.loop c) ρ H :=
  WC.loop (fun s => D s ++ ρ) M S μ s0 hS (fun i v hi => by
    rw [Env.find_app] at hi
    cases hq : Env.find (D s0) i with
    | some u => rw [hq] at hi; simp at hi; subst hi; exact hρ i u hq
    | none => rw [hq] at hi; exact hi) l hl hH round
theorem End.againD {σ : Type} {D : σ → Env} {ρ0 : Env} {M : σ → List It} {S : σ → Prop} {μ : σ → Nat} {s : σ} (s' : σ) (hS : S s') (hμ : μ s' < μ s) (h1 : ρ.drop (ρ.length - ρ0.length) = ρ0) (hδ : Env.sub (D s') ρ) (hk : freshB (ρ.take (ρ.length - ρ0.length)) (D s') ρ0 = true)
    (l : List Nat) (hl : selOk H l = true) (hH : sel H l = M s') : End w0 n (Exit.then (Again w0 n (fun s => D s ++ ρ0) M S μ s) Q) .normal ρ H :=
  End.again s' hS hμ (Env.sub_ext h1 hδ hk) l hl hH
/-- A cut: some slots told, all others that stood before and were not written stay. -/
theorem WC.cutD {σ : Type} (D : σ → Env) (M : σ → List It) (S : σ → Prop) (h1 : WC w0 n (Exit.then (At w0 n (fun s => D s ++ ρ) M S) Q) c1 ρ H) (h2 : ∀ s, S s → WC w0 n Q c2 (D s ++ ρ) (M s)) : WC w0 n Q (.seq c1 c2) ρ H :=
  WC.cut (fun s => D s ++ ρ) M S h1 h2
theorem End.atD {σ : Type} {D : σ → Env} {ρ0 : Env} {M : σ → List It} {S : σ → Prop} (s : σ) (hS : S s) (h1 : ρ.drop (ρ.length - ρ0.length) = ρ0) (hδ : Env.sub (D s) ρ) (hk : freshB (ρ.take (ρ.length - ρ0.length)) (D s) ρ0 = true) (l : List Nat) (hl : selOk H l = true) (hH : sel H l = M s) :
    End w0 n (Exit.then (At w0 n (fun s => D s ++ ρ0) M S) Q) .normal ρ H :=
  End.at_ s hS (Env.sub_ext h1 hδ hk) l hl hH
end
end Go.Proofs.YtlkkiimmangplaaGreatDoor
