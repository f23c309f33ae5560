/- A region that draws its order, with stores and new variables: the values as a list, found step by step. -/
import Derived.Test.YtlkkiimmangplaaGreatDoorR
namespace Go.Proofs.YtlkkiimmangplaaGreatDoor
open Go.RowKit
set_option linter.unusedVariables false
set_option linter.unusedSimpArgs false

abbrev Lt := Nat → Nat × Nat
def updl (s : Lt) (i : Nat) (x : Nat × Nat) : Lt := fun j => bif Nat.beq j i then x else s j
def nth : List (Lt → Value) → Nat → Lt → Value
  | [], _, _ => undef
  | v :: _, 0, s => v s
  | _ :: r, i + 1, s => nth r i s
def Closed (ops : Array Oper) (b : Nat → Bool) : Prop := ∀ (i : Nat) (o : Oper), ops[i]? = some o → b i = true → ∀ j ∈ dps o, b j = true
theorem Closed.up {ops : Array Oper} {b : Nat → Bool} (h : Closed ops b) {i : Nat} {o : Oper} (ho : ops[i]? = some o) (hd : ∀ j ∈ dps o, b j = true) : Closed ops (up b i) := by
  intro k p hk hb j hj
  unfold YtlkkiimmangplaaGreatDoor.up at hb ⊢
  have hbj : b j = true := by
    cases hq : Nat.beq k i with
    | true =>
      have e := Nat.eq_of_beq_eq_true hq
      subst e
      rw [ho] at hk
      injection hk with hk
      subst hk
      exact hd j hj
    | false => rw [hq] at hb; exact h k p hk hb j hj
  rw [hbj]
  cases Nat.beq j i <;> rfl
def reachB (ops : Array Oper) : Nat → Nat → Nat → Bool
  | 0, _, _ => false
  | f + 1, j, i => match ops[j]? with
    | some o => (dps o).any fun k => Nat.beq k i || reachB ops f k i
    | none => false
theorem reach_closed {ops : Array Oper} {b : Nat → Bool} (h : Closed ops b) : ∀ (f j i : Nat), reachB ops f j i = true → b j = true → b i = true
  | 0, j, i, hr, _ => by simp [reachB] at hr
  | f + 1, j, i, hr, hb => by
    unfold reachB at hr
    cases ho : ops[j]? with
    | none => rw [ho] at hr; simp at hr
    | some o =>
      rw [ho] at hr
      simp only [List.any_eq_true] at hr
      obtain ⟨k, hk, hk'⟩ := hr
      have hbk := h j o ho hb k hk
      rcases Bool.or_eq_true_iff.1 hk' with e | e
      · rw [← Nat.eq_of_beq_eq_true e]; exact hbk
      · exact reach_closed h f k i e hbk
/-- The values that do not hang on letter i. -/
def AgrL (ops : Array Oper) (vs : List (Lt → Value)) (i : Nat) : Nat → List (Lt → Value) → Prop
  | _, [] => True
  | j, v :: r => ((Nat.beq j i || reachB ops 64 j i) = true ∨ ∀ s x, v (updl s i x) = v s) ∧ AgrL ops vs i (j + 1) r
theorem AgrL.nil {ops : Array Oper} {vs : List (Lt → Value)} {i j : Nat} : AgrL ops vs i j [] := trivial
theorem AgrL.yes {ops : Array Oper} {vs r : List (Lt → Value)} {i j : Nat} {v : Lt → Value} (h : (Nat.beq j i || reachB ops 64 j i) = true) (k : AgrL ops vs i (j + 1) r) : AgrL ops vs i j (v :: r) := ⟨.inl h, k⟩
theorem AgrL.no {ops : Array Oper} {vs r : List (Lt → Value)} {i j : Nat} {v : Lt → Value} (h : ∀ s x, v (updl s i x) = v s) (k : AgrL ops vs i (j + 1) r) : AgrL ops vs i j (v :: r) := ⟨.inr h, k⟩
theorem AgrL.get {ops : Array Oper} {vs : List (Lt → Value)} {i : Nat} {b : Nat → Bool} (hc : Closed ops b) (hi : b i = false) : ∀ (l : List (Lt → Value)) (k : Nat), AgrL ops vs i k l → ∀ (j : Nat), b (k + j) = true → ∀ s x, nth l j (updl s i x) = nth l j s
  | [], k, h, j, hb, s, x => by cases j <;> rfl
  | v :: r, k, h, 0, hb, s, x => by
    rcases h.1 with e | e
    · exfalso
      have hbi : b i = true := by
        rcases Bool.or_eq_true_iff.1 e with e | e
        · rw [← Nat.eq_of_beq_eq_true e]; exact hb
        · exact reach_closed hc _ _ _ e hb
      rw [hi] at hbi; cases hbi
    · exact e s x
  | v :: r, k, h, j + 1, hb, s, x => AgrL.get hc hi r (k + 1) h.2 j (by rw [show k + 1 + j = k + (j + 1) by omega]; exact hb) s x
def AgrAll (ops : Array Oper) (vs : List (Lt → Value)) : List Nat → Prop
  | [] => True
  | i :: r => AgrL ops vs i 0 vs ∧ AgrAll ops vs r
theorem AgrAll.nil {ops : Array Oper} {vs : List (Lt → Value)} : AgrAll ops vs [] := trivial
theorem AgrAll.cons {ops : Array Oper} {vs : List (Lt → Value)} {i : Nat} {r : List Nat} (h : AgrL ops vs i 0 vs) (k : AgrAll ops vs r) : AgrAll ops vs (i :: r) := ⟨h, k⟩
theorem AgrAll.get {ops : Array Oper} {vs : List (Lt → Value)} : ∀ {l : List Nat}, AgrAll ops vs l → ∀ {i : Nat}, i ∈ l → AgrL ops vs i 0 vs
  | j :: r, h, i, hi => by
    rcases List.mem_cons.1 hi with rfl | hi
    · exact h.1
    · exact AgrAll.get h.2 hi

/-! ### Stores of a region into one block: each with a flag -/
theorem putAt_get : ∀ (vs : List Value) (cs : Array Value) (o k : Nat), (putAt cs o vs)[k]? = if o ≤ k ∧ k < o + vs.length ∧ k < cs.size then vs[k - o]? else cs[k]?
  | [], cs, o, k => by rw [if_neg (by simp; omega)]; rfl
  | v :: r, cs, o, k => by
    unfold putAt
    rw [putAt_get r]
    simp only [Array.size_setIfInBounds, List.length_cons]
    by_cases h1 : o + 1 ≤ k ∧ k < o + 1 + r.length ∧ k < cs.size
    · rw [if_pos h1, if_pos (by omega)]
      rw [show k - o = (k - (o + 1)) + 1 by omega]
      simp
    · rw [if_neg h1]
      by_cases h2 : k = o
      · subst h2
        by_cases h3 : k < cs.size
        · rw [if_pos (by omega)]; simp [h3]
        · rw [if_neg (by omega)]; simp [h3]
      · rw [if_neg (by omega), Array.getElem?_setIfInBounds_ne (by omega)]
theorem putAt_comm {cs : Array Value} {o o' : Nat} {vs vs' : List Value} (h : o + vs.length ≤ o' ∨ o' + vs'.length ≤ o) : putAt (putAt cs o vs) o' vs' = putAt (putAt cs o' vs') o vs := by
  apply Array.ext_getElem?
  intro k
  rw [putAt_get, putAt_get, putAt_get, putAt_get, putAt_size, putAt_size]
  by_cases h1 : o' ≤ k ∧ k < o' + vs'.length ∧ k < cs.size <;> by_cases h2 : o ≤ k ∧ k < o + vs.length ∧ k < cs.size
  · omega
  · rw [if_pos h1, if_neg h2, if_pos h1]
  · rw [if_neg h1, if_pos h2, if_pos h2]
  · rw [if_neg h1, if_neg h2, if_neg h2, if_neg h1]
theorem putAt_all {cs us : Array Value} (h : us.size = cs.size) : putAt cs 0 us.toList = us := by
  apply Array.ext_getElem?
  intro k
  rw [putAt_get]
  by_cases hk : k < cs.size
  · rw [if_pos (by simp [h, hk])]; simp
  · rw [if_neg (by omega)]
    simp [hk, h]
abbrev Sto := Bool × Nat × Nat × List Value
def lput : List Value → Nat → List Value → List Value
  | l, _, [] => l
  | [], _, _ :: _ => []
  | _ :: l, 0, v :: vs => v :: lput l 0 vs
  | x :: l, o + 1, v :: vs => x :: lput l o (v :: vs)
theorem lput_get : ∀ (l : List Value) (o : Nat) (vs : List Value) (k : Nat), (lput l o vs)[k]? = if o ≤ k ∧ k < o + vs.length ∧ k < l.length then vs[k - o]? else l[k]?
  | l, o, [], k => by
    rw [if_neg (by simp; omega)]
    unfold lput
    cases l <;> rfl
  | [], o, v :: r, k => by rw [if_neg (by simp)]; rfl
  | x :: l, 0, v :: r, 0 => by simp [lput]
  | x :: l, 0, v :: r, k + 1 => by
    unfold lput
    simp only [List.getElem?_cons_succ]
    rw [lput_get l 0 r k]
    simp only [List.length_cons]
    by_cases h : k < r.length ∧ k < l.length
    · rw [if_pos (by omega), if_pos (by omega)]
      simp
    · rw [if_neg (by omega), if_neg (by omega)]
  | x :: l, o + 1, v :: r, 0 => by simp [lput]
  | x :: l, o + 1, v :: r, k + 1 => by
    unfold lput
    simp only [List.getElem?_cons_succ]
    rw [lput_get l o (v :: r) k]
    simp only [List.length_cons]
    by_cases h : o ≤ k ∧ k < o + (r.length + 1) ∧ k < l.length
    · rw [if_pos h, if_pos (by omega)]
      rw [show k + 1 - (o + 1) = k - o by omega]
    · rw [if_neg h, if_neg (by omega)]
theorem lput_eq (cs : Array Value) (o : Nat) (vs : List Value) : (lput cs.toList o vs).toArray = putAt cs o vs := by
  apply Array.ext_getElem?
  intro k
  rw [putAt_get, List.getElem?_toArray, lput_get]
  simp
def layL (l : List Value) : List Sto → List Value
  | [] => l
  | (c, off, m, vs) :: r => bif c then lput (layL l r) off (vs.take m) else layL l r
def lay (cs : Array Value) (L : List Sto) : Array Value := (layL cs.toList L).toArray
theorem lay_nil (cs : Array Value) : lay cs [] = cs := by simp [lay, layL]
theorem lay_true (cs : Array Value) (off m : Nat) (vs : List Value) (r : List Sto) : lay cs ((true, off, m, vs) :: r) = putAt (lay cs r) off (vs.take m) := by
  rw [← lput_eq]; simp [lay, layL]
theorem lay_false (cs : Array Value) (off m : Nat) (vs : List Value) (r : List Sto) : lay cs ((false, off, m, vs) :: r) = lay cs r := rfl
def farB (off m : Nat) : List Sto → Bool
  | [] => true
  | (_, o, k, _) :: r => (Nat.ble (off + m) o || Nat.ble (o + k) off) && farB off m r
def layOk : List Sto → Nat → Bool
  | [], _ => false
  | (_, off, m, _) :: r, 0 => true
  | (_, off, m, _) :: r, i + 1 => layOk r i
def farAt (off m : Nat) : List Sto → Nat → Bool
  | [], _ => true
  | _ :: r, 0 => true
  | (_, o, k, _) :: r, i + 1 => (Nat.ble (off + m) o || Nat.ble (o + k) off) && farAt off m r i
theorem lay_size (cs : Array Value) : ∀ L : List Sto, (lay cs L).size = cs.size
  | [] => by rw [lay_nil]
  | (true, off, m, vs) :: r => by rw [lay_true, putAt_size, lay_size cs r]
  | (false, off, m, vs) :: r => by rw [lay_false, lay_size cs r]
theorem lay_set (cs : Array Value) {off m : Nat} {vs : List Value} : ∀ (L : List Sto) (i : Nat), L[i]? = some (false, off, m, vs) → farAt off m L i = true → lay cs (L.set i (true, off, m, vs)) = putAt (lay cs L) off (vs.take m)
  | [], i, h, _ => by simp at h
  | (c, o, k, us) :: r, 0, h, _ => by
    simp at h
    obtain ⟨rfl, rfl, rfl, rfl⟩ := h
    simp only [List.set_cons_zero]
    rw [lay_true, lay_false]
  | (c, o, k, us) :: r, i + 1, h, hf => by
    unfold farAt at hf
    rw [Bool.and_eq_true] at hf
    have ih := lay_set cs r i (by simpa using h) hf.2
    simp only [List.set_cons_succ]
    cases c with
    | false => rw [lay_false, lay_false]; exact ih
    | true =>
      rw [lay_true, lay_true, ih]
      refine putAt_comm ?_
      have hd := hf.1
      simp only [Bool.or_eq_true, Nat.ble_eq] at hd
      simp only [List.length_take]
      omega

section
variable (w0 : World) (n : Nat) (ops : Array Oper) (Q : Exit → Act → World → Prop)
/-- What one operation must show. -/
def Stp (ρ : Env) (vs : List (Lt → Value)) (Hs : (Nat → Bool) → Lt → List It) (al : List Nat) (i : Nat) (o : Oper) : Prop := ∀ (b : Nat → Bool) (s : Lt), Closed ops b → b i = false → (∀ j ∈ dps o, b j = true) →
  OS w0 n ops Q o (envOf ops (fun j => nth vs j s) (dps o) ++ ρ) (Hs b s) (fun v w' => ∃ s', (s' = s ∨ (i ∈ al ∧ ∃ x, s' = updl s i x)) ∧ v = nth vs i s' ∧ St w0 (Hs (up b i) s') w')
def Stps (ρ : Env) (vs : List (Lt → Value)) (Hs : (Nat → Bool) → Lt → List It) (al : List Nat) : Nat → List Oper → Prop
  | _, [] => True
  | i, o :: r => Stp w0 n ops Q ρ vs Hs al i o ∧ Stps ρ vs Hs al (i + 1) r
end
section
variable {w0 : World} {n : Nat} {ops : Array Oper} {Q : Exit → Act → World → Prop} {ρ : Env} {H : List It} {id : Nat} {vs : List (Lt → Value)} {Hs : (Nat → Bool) → Lt → List It} {al : List Nat} {i : Nat} {o : Oper} {r : List Oper}
theorem Stps.nil : Stps w0 n ops Q ρ vs Hs al i [] := trivial
theorem Stps.cons (h : Stp w0 n ops Q ρ vs Hs al i o) (k : Stps w0 n ops Q ρ vs Hs al (i + 1) r) : Stps w0 n ops Q ρ vs Hs al i (o :: r) := ⟨h, k⟩

theorem WC.draws {Hs : (Nat → Lt → Value) → List It → (Nat → Bool) → Lt → List It} (al : List Nat) (hac : acycB ops = true) (hdo : dstOk ops = true) (hcl : cleanB ops n (clean ops ρ) = true)
    (h0 : ∀ s, Hs (nth vs) H (fun _ => false) s = H) (steps : Stps w0 n ops Q (clean ops ρ) vs (Hs (nth vs) H) al 0 ops.toList) (agree : AgrAll ops vs al)
    (fin : ∀ s, End w0 n Q .normal (envOf ops (fun j => nth vs j s) (List.range ops.size) ++ clean ops ρ) (Hs (nth vs) H (fun i => Nat.blt i ops.size) s)) : WC w0 n Q (.region id ops true) ρ H := by
  refine WC.inv (σ := Lt) (nth vs) (Hs (nth vs) H) (fun b _ => Closed ops b) (fun _ => (0, 0)) hac hdo hcl (h0 _) (fun i o _ h => by cases h) ?_ (fun s _ => fin s)
  have key : ∀ (l : List Oper) (k : Nat), (∀ j o, l[j]? = some o → ops[k + j]? = some o) → Stps w0 n ops Q (clean ops ρ) vs (Hs (nth vs) H) al k l → StepsOf w0 n ops Q (clean ops ρ) (nth vs) (Hs (nth vs) H) (fun b _ => Closed ops b) k l := by
    intro l
    induction l with
    | nil => intro k _ _; trivial
    | cons o r ih =>
      intro k hk h
      refine ⟨fun b s hb hd hS a w hf hs K hK => h.1 b s hS hb hd a w hf hs K (fun v w' hT => hK v w' ?_), ih (k + 1) (fun j p hj => by rw [show k + 1 + j = k + (j + 1) by omega]; exact hk (j + 1) p (by simpa using hj)) h.2⟩
      obtain ⟨s', hs', hv, hst⟩ := hT
      have ho : ops[k]? = some o := hk 0 o rfl
      refine ⟨s', hv, hS.up ho hd, fun j hj => ?_, hst⟩
      rcases hs' with rfl | ⟨hi, x, rfl⟩
      · rfl
      · exact AgrL.get hS hb vs 0 (agree.get hi) j (by rw [Nat.zero_add]; exact hj) s x
  exact key ops.toList 0 (fun j o h => by rw [Nat.zero_add]; simpa using h) steps

variable {d : Nat} {ty t t' : TypeId} {pos : String} {af : Array Edge} {g : Option (Nat × Bool)} {x y z : Operand} {v u : Value}
theorem Stp.p (hr : ∀ (b : Nat → Bool) (s : Lt), (∀ j ∈ dps o, b j = true) → ∃ v, (onB ops (envOf ops (fun j => nth vs j s) (dps o) ++ ρ) o = some true ∧ Pure w0 n (envOf ops (fun j => nth vs j s) (dps o) ++ ρ) (Hs b s) o v) ∧ v = nth vs i s ∧ Hs (up b i) s = Hs b s) : Stp w0 n ops Q ρ vs Hs al i o := fun b s hcl hb hd => by
  obtain ⟨v, ⟨hon, hp⟩, hv, hH⟩ := hr b s hd
  exact OS.val hon fun a w hf hs => ⟨v, w, hp a w hf hs, s, .inl rfl, hv, by rw [hH]; exact hs⟩
/-- A store; the block may be one of this region's. -/
theorem Stp.store (j m : Nat) (hsz : Sized t 1) (hr : ∀ (b : Nat → Bool) (s : Lt), (∀ j ∈ dps ⟨none, .store t x y, ty, pos, af, g⟩, b j = true) → ∃ (c : Bool) (q off : Nat) (t' : TypeId) (cs : Array Value) (v : Value) (L : List Sto), (onB ops (envOf ops (fun j => nth vs j s) (dps ⟨none, .store t x y, ty, pos, af, g⟩) ++ ρ) ⟨none, .store t x y, ty, pos, af, g⟩ = some true) ∧
      ev (envOf ops (fun j => nth vs j s) (dps ⟨none, .store t x y, ty, pos, af, g⟩) ++ ρ) x = some (.pointer (some ⟨q, off, none⟩)) ∧ ev (envOf ops (fun j => nth vs j s) (dps ⟨none, .store t x y, ty, pos, af, g⟩) ++ ρ) y = some v ∧ v.oneCell' = true ∧
      (Hs b s)[j]? = some (bif c then .blk q t' (lay cs L) else .nil) ∧ c = true ∧ L[m]? = some (b i, off, 1, [v]) ∧ farAt off 1 L m = true ∧ Nat.blt off cs.size = true ∧ nth vs i s = undef ∧ Hs (up b i) s = (Hs b s).set j (bif c then .blk q t' (lay cs (L.set m (true, off, 1, [v]))) else .nil)) : Stp w0 n ops Q ρ vs Hs al i ⟨none, .store t x y, ty, pos, af, g⟩ := fun b s hcl hb hd => by
  obtain ⟨c, q, off, t', cs, v, L, hon, hx, hy, h1, hj, rfl, hL, hfar, ho, hu, hH⟩ := hr b s hd
  rw [hb] at hL
  rw [lay_set cs L m hL hfar] at hH
  simp only [cond_true] at hj hH
  refine OS.skip_ hon fun a w hf hs => ?_
  have hbk := hs.ok j _ hj
  refine ⟨w.setCell ⟨q, off, none⟩ v, ?_, s, .inl rfl, hu.symm, ?_⟩
  · simp [execOp, hf.eval hx, hf.eval hy, run_storeAt_cell hsz h1 hbk.2 (by rw [lay_size]; exact ho)]
  · rw [hH]
    exact hs.swap j hj (fun k hk => .inl hk) ⟨hbk.1, heap_set hbk.2⟩ (hs.below.setCell (p := ⟨q, off, none⟩) hbk.1 v) (fun k _ hk => Below.heap_setCell _ _ _ _ (fun e => hk (by rw [e]; rfl)))
theorem Stp.storeA (j m : Nat) {sz : Nat} (hsz : Sized t sz) (hr : ∀ (b : Nat → Bool) (s : Lt), (∀ j ∈ dps ⟨none, .store t x y, ty, pos, af, g⟩, b j = true) → ∃ (c : Bool) (q off : Nat) (t' : TypeId) (cs us : Array Value) (L : List Sto), (onB ops (envOf ops (fun j => nth vs j s) (dps ⟨none, .store t x y, ty, pos, af, g⟩) ++ ρ) ⟨none, .store t x y, ty, pos, af, g⟩ = some true) ∧
      ev (envOf ops (fun j => nth vs j s) (dps ⟨none, .store t x y, ty, pos, af, g⟩) ++ ρ) x = some (.pointer (some ⟨q, off, none⟩)) ∧ ev (envOf ops (fun j => nth vs j s) (dps ⟨none, .store t x y, ty, pos, af, g⟩) ++ ρ) y = some (.agg us) ∧ (us.toList.all Value.oneCell' = true) ∧ us.size = sz ∧
      (Hs b s)[j]? = some (bif c then .blk q t' (lay cs L) else .nil) ∧ c = true ∧ L[m]? = some (b i, off, sz, us.toList) ∧ farAt off sz L m = true ∧ Nat.ble (off + sz) cs.size = true ∧ nth vs i s = undef ∧ Hs (up b i) s = (Hs b s).set j (bif c then .blk q t' (lay cs (L.set m (true, off, sz, us.toList))) else .nil)) : Stp w0 n ops Q ρ vs Hs al i ⟨none, .store t x y, ty, pos, af, g⟩ := fun b s hcl hb hd => by
  obtain ⟨c, q, off, t', cs, us, L, hon, hx, hy, h1, hv, hj, rfl, hL, hfar, ho, hu, hH⟩ := hr b s hd
  rw [hb] at hL
  rw [lay_set cs L m hL hfar, List.take_of_length_le (by simp [hv])] at hH
  simp only [cond_true] at hj hH
  refine OS.skip_ hon fun a w hf hs => ?_
  have hbk := hs.ok j _ hj
  obtain ⟨w', h2, h3, h4, h5, h6, h7, h8⟩ := run_storeAt_agg hsz (List.all_eq_true.1 h1) hv hbk.2 (by rw [lay_size]; simpa using ho)
  refine ⟨w', by simp [execOp, hf.eval hx, hf.eval hy, h2], s, .inl rfl, hu.symm, ?_⟩
  rw [hH]
  refine hs.swap j hj (fun k hk => .inl hk) ⟨hbk.1, h3⟩ ?_ (fun k _ hk => h5 k (fun e => hk (by rw [e]; rfl)))
  refine hs.below.trans ⟨h6, h7, h8, by omega, fun k hk => h5 k (fun e => ?_)⟩
  have := hbk.1
  omega
/-- The whole of a block. -/
theorem Stp.storeW (j : Nat) {sz : Nat} (hsz : Sized t sz) (hr : ∀ (b : Nat → Bool) (s : Lt), (∀ j ∈ dps ⟨none, .store t x y, ty, pos, af, g⟩, b j = true) → ∃ (c : Bool) (q : Nat) (t' : TypeId) (cs us X : Array Value), (onB ops (envOf ops (fun j => nth vs j s) (dps ⟨none, .store t x y, ty, pos, af, g⟩) ++ ρ) ⟨none, .store t x y, ty, pos, af, g⟩ = some true) ∧
      ev (envOf ops (fun j => nth vs j s) (dps ⟨none, .store t x y, ty, pos, af, g⟩) ++ ρ) x = some (.pointer (some ⟨q, 0, none⟩)) ∧ ev (envOf ops (fun j => nth vs j s) (dps ⟨none, .store t x y, ty, pos, af, g⟩) ++ ρ) y = some (.agg us) ∧ (us.toList.all Value.oneCell' = true) ∧ us.size = sz ∧
      (Hs b s)[j]? = some (bif c then .blk q t' (bif b i then X else cs) else .nil) ∧ c = true ∧ cs.size = sz ∧ nth vs i s = undef ∧ Hs (up b i) s = (Hs b s).set j (bif c then .blk q t' us else .nil)) : Stp w0 n ops Q ρ vs Hs al i ⟨none, .store t x y, ty, pos, af, g⟩ := fun b s hcl hb hd => by
  obtain ⟨c, q, t', cs, us, X, hon, hx, hy, h1, hv, hj, rfl, hcs, hu, hH⟩ := hr b s hd
  rw [hb] at hj
  simp only [cond_true, cond_false] at hj hH
  refine OS.skip_ hon fun a w hf hs => ?_
  have hbk := hs.ok j _ hj
  obtain ⟨w', h2, h3, h4, h5, h6, h7, h8⟩ := run_storeAt_agg (o := 0) hsz (List.all_eq_true.1 h1) hv hbk.2 (by omega)
  rw [putAt_all (by omega)] at h3
  refine ⟨w', by simp [execOp, hf.eval hx, hf.eval hy, h2], s, .inl rfl, hu.symm, ?_⟩
  rw [hH]
  refine hs.swap j hj (fun k hk => .inl hk) ⟨hbk.1, h3⟩ ?_ (fun k _ hk => h5 k (fun e => hk (by rw [e]; rfl)))
  refine hs.below.trans ⟨h6, h7, h8, by omega, fun k hk => h5 k (fun e => ?_)⟩
  have := hbk.1
  omega
def offl (ks : List Nat) (b : Nat → Bool) : Nat → Bool := fun k => bif ks.any (fun x => Nat.beq x k) then false else b k
/-- A pure step, and stores that come behind it. -/
theorem Stp.pw (ks : List Nat) (hks : ks.all (fun k => reachB ops 64 k i) = true) (hr : ∀ (b : Nat → Bool) (s : Lt), (∀ j ∈ dps o, b j = true) → ∃ v, (onB ops (envOf ops (fun j => nth vs j s) (dps o) ++ ρ) o = some true ∧ Pure w0 n (envOf ops (fun j => nth vs j s) (dps o) ++ ρ) (Hs (offl ks b) s) o v) ∧ v = nth vs i s ∧ Hs (up b i) s = Hs b s) : Stp w0 n ops Q ρ vs Hs al i o := fun b s hcl hb hd => by
  have e : offl ks b = b := by
    funext k
    unfold offl
    cases hq : ks.any (fun x => Nat.beq x k) with
    | false => rfl
    | true =>
      obtain ⟨x, hx, hxk⟩ := List.any_eq_true.1 hq
      have := Nat.eq_of_beq_eq_true hxk
      subst this
      cases hbx : b x with
      | false => rfl
      | true =>
        have := reach_closed hcl _ _ _ (List.all_eq_true.1 hks x hx) hbx
        rw [hb] at this; cases this
  obtain ⟨v, ⟨hon, hp⟩, hv, hH⟩ := hr b s hd
  rw [e] at hp
  exact OS.val hon fun a w hf hs => ⟨v, w, hp a w hf hs, s, .inl rfl, hv, by rw [hH]; exact hs⟩
/-- A call that leaves all as it was. -/
theorem Stp.call {f : FuncId} {xs : List Operand} {ats : Array TypeId} {cal : Operand} (he : Ent f) (hr : ∀ (b : Nat → Bool) (s : Lt), (∀ j ∈ dps ⟨some d, .call ⟨.value cal, xs.toArray, ats⟩, ty, pos, af, g⟩, b j = true) → ∃ (us : List Value) (cap : Array Value) (v : Value), (onB ops (envOf ops (fun j => nth vs j s) (dps ⟨some d, .call ⟨.value cal, xs.toArray, ats⟩, ty, pos, af, g⟩) ++ ρ) ⟨some d, .call ⟨.value cal, xs.toArray, ats⟩, ty, pos, af, g⟩ = some true) ∧
      ev (envOf ops (fun j => nth vs j s) (dps ⟨some d, .call ⟨.value cal, xs.toArray, ats⟩, ty, pos, af, g⟩) ++ ρ) cal = some (.func (.func f) #[] cap) ∧ evl (envOf ops (fun j => nth vs j s) (dps ⟨some d, .call ⟨.value cal, xs.toArray, ats⟩, ty, pos, af, g⟩) ++ ρ) xs = some us ∧
      (∀ w, St w0 (Hs b s) w → Calls Tryz.prog f (us.toArray ++ cap) w (RetV w v)) ∧ v = nth vs i s ∧ Hs (up b i) s = Hs b s) : Stp w0 n ops Q ρ vs Hs al i ⟨some d, .call ⟨.value cal, xs.toArray, ats⟩, ty, pos, af, g⟩ := fun b s hcl hb hd => by
  obtain ⟨us, cap, v, hon, hcal, hx, hc, hv, hH⟩ := hr b s hd
  refine OS.callG he rfl hon hcal hx fun w hs => (hc w hs).mono fun e w' h => ?_
  obtain ⟨rfl, h2⟩ := h
  refine ⟨v, rfl, s, .inl rfl, hv, ?_⟩
  rw [hH]
  simpa using hs.call h2
theorem Stp.callv {f : FuncId} {xs : List Operand} {ats : Array TypeId} (he : Ent f) (hr : ∀ (b : Nat → Bool) (s : Lt), (∀ j ∈ dps ⟨some d, .call ⟨.value (.func f), xs.toArray, ats⟩, ty, pos, af, g⟩, b j = true) → ∃ (us : List Value) (v : Value), (onB ops (envOf ops (fun j => nth vs j s) (dps ⟨some d, .call ⟨.value (.func f), xs.toArray, ats⟩, ty, pos, af, g⟩) ++ ρ) ⟨some d, .call ⟨.value (.func f), xs.toArray, ats⟩, ty, pos, af, g⟩ = some true) ∧
      evl (envOf ops (fun j => nth vs j s) (dps ⟨some d, .call ⟨.value (.func f), xs.toArray, ats⟩, ty, pos, af, g⟩) ++ ρ) xs = some us ∧
      (∀ w, St w0 (Hs b s) w → Calls Tryz.prog f us.toArray w (RetV w v)) ∧ v = nth vs i s ∧ Hs (up b i) s = Hs b s) : Stp w0 n ops Q ρ vs Hs al i ⟨some d, .call ⟨.value (.func f), xs.toArray, ats⟩, ty, pos, af, g⟩ :=
  Stp.call he fun b s hd => by
    obtain ⟨us, v, h1, h2, h3, h4, h5⟩ := hr b s hd
    exact ⟨us, #[], v, h1, rfl, h2, fun w hs => by rw [Array.append_empty]; exact h3 w hs, h4, h5⟩
/-- A new variable. -/
theorem Stp.alloc {t1 : TypeId} (j : Nat) (hz : ∀ w : World, (zeroValue t1).run Tryz.prog w = .ok v w) (hi : al.contains i = true) (hr : ∀ (b : Nat → Bool) (s : Lt) (q : Nat), (onB ops (envOf ops (fun j => nth vs j s) (dps ⟨some d, .alloc t1, ty, pos, af, g⟩) ++ ρ) ⟨some d, .alloc t1, ty, pos, af, g⟩ = some true) ∧
      nth vs i (updl s i (q, 0)) = .pointer (some ⟨q, 0, none⟩) ∧ ∃ X, (Hs b s)[j]? = some (bif b i then X else .nil) ∧ (b i = false → Hs (up b i) (updl s i (q, 0)) = (Hs b s).set j (.blk q t1 v.cells))) : Stp w0 n ops Q ρ vs Hs al i ⟨some d, .alloc t1, ty, pos, af, g⟩ := fun b s hcl hb hd => by
  have h0 := hr b s 0
  refine OS.val h0.1 fun a w hf hs => ⟨.pointer (some ⟨w.heap.size, 0, none⟩), w.alloc (.cells v.cells t1), by simp [execOp, Instr.alloc, hz w, newVar, newRow], ?_⟩
  obtain ⟨_, h1, X, hj, h2⟩ := hr b s w.heap.size
  rw [hb] at hj
  refine ⟨_, .inr ⟨by simpa using hi, (w.heap.size, 0), rfl⟩, h1.symm, ?_⟩
  rw [h2 hb]
  have hb2 := hs.below.alloc hs.size (.cells v.cells t1)
  refine hs.swap j hj (fun k hk => .inr ?_) ⟨hs.size, heap_alloc_new w _⟩ hb2 (fun k hk _ => ?_)
  · simp [It.key] at hk; omega
  · exact ((Below.refl w.heap.size w).alloc (Nat.le_refl _) _).block k hk
/-- A call that lays one new thing. -/
theorem Stp.callx {f : FuncId} {xs : List Operand} {ats : Array TypeId} (j : Nat) (he : Ent f) (hi : al.contains i = true) (hr : ∀ (b : Nat → Bool) (s : Lt), b i = false → (∀ j ∈ dps ⟨some d, .call ⟨.value (.func f), xs.toArray, ats⟩, ty, pos, af, g⟩, b j = true) → ∃ (us : List Value) (S : Nat → Prop) (v : Nat → Value) (X : Nat → It), (onB ops (envOf ops (fun j => nth vs j s) (dps ⟨some d, .call ⟨.value (.func f), xs.toArray, ats⟩, ty, pos, af, g⟩) ++ ρ) ⟨some d, .call ⟨.value (.func f), xs.toArray, ats⟩, ty, pos, af, g⟩ = some true) ∧
      evl (envOf ops (fun j => nth vs j s) (dps ⟨some d, .call ⟨.value (.func f), xs.toArray, ats⟩, ty, pos, af, g⟩) ++ ρ) xs = some us ∧
      (∀ w, St w0 (Hs b s) w → Calls Tryz.prog f us.toArray w (Ret w S v (fun q => [X q]))) ∧ (∀ q, v q = nth vs i (updl s i (q, 0))) ∧ (∃ Y, (Hs b s)[j]? = some (bif b i then Y else .nil)) ∧ ∀ q, Hs (up b i) (updl s i (q, 0)) = (Hs b s).set j (X q)) : Stp w0 n ops Q ρ vs Hs al i ⟨some d, .call ⟨.value (.func f), xs.toArray, ats⟩, ty, pos, af, g⟩ := fun b s hcl hb hd => by
  obtain ⟨us, S, v, X, hon, hx, hc, hv, ⟨Y, hj⟩, hH⟩ := hr b s hb hd
  rw [hb] at hj
  refine OS.callG (cap := #[]) he rfl hon rfl hx fun w hs => ?_
  rw [Array.append_empty]
  refine (hc w hs).mono fun e w' h => ?_
  obtain ⟨q, _, rfl, h2⟩ := h
  refine ⟨v q, rfl, _, .inr ⟨by simpa using hi, (q, 0), rfl⟩, hv q, ?_⟩
  rw [hH q]
  have h3 : St w0 ([X q] ++ (Hs b s)) w' := hs.call h2
  refine hs.swap j hj (fun k hk => .inr (It.base (h2.ok 0 _ rfl) hk).1) (It.lower (h2.ok 0 _ rfl) hs.size) h3.below (fun k hk _ => h2.below.block k hk)
/-- Places for what is still to come. -/
theorem WC.nil1 {c : Code} (k : WC w0 n Q c ρ (.nil :: H)) : WC w0 n Q c ρ H := fun a w hf hs => k a w hf ⟨hs.below, fun i x hi => by
  cases i with
  | zero => simp at hi; subst hi; trivial
  | succ i => exact hs.ok i x (by simpa using hi), fun i j x y hx hy hij k hk => by
  cases i with
  | zero => simp at hx; subst hx; cases hk
  | succ i =>
    cases j with
    | zero => simp at hy; subst hy; intro h; cases h
    | succ j => exact hs.apart i j x y (by simpa using hx) (by simpa using hy) (by omega) k hk⟩
theorem End.shape {e : Exit} {ρ' : Env} {H' : List It} (h1 : Env.sub ρ' ρ) (h2 : H = H') (k : End w0 n Q e ρ' H') : End w0 n Q e ρ H := fun a w hf hs => k a w (hf.sub h1) (h2 ▸ hs)
end

/-- A call whose own memory is told from further above. -/
theorem enterH {c : Code} {n : Nat} {f : FuncId} {fn : Func} {vs : List Value} {w0 w : World} {H : List It} {R : Ending → World → Prop} (hf : Tryz.prog.funcs[f]? = some fn) (hb : fn.body = some c) (hn : fn.ntmps = n) (hl : Nat.ble vs.length n = true) (hst : St w0 H w) (h : WC w0 n (bodyPost Tryz.prog fn R) c (argEnv 0 vs) H) :
    Calls Tryz.prog f vs.toArray w R := by
  have hl' : vs.length ≤ n := by simpa using hl
  refine calls_of_wp hf hb (h _ w ⟨rfl, ?_, fun i v hi => ?_⟩ hst)
  · simp [hn]; omega
  · obtain ⟨_, h2⟩ := argEnv_find vs 0 i v hi
    have h3 : vs.toArray[i]? = some v := by simpa using h2
    have hlt : i < vs.toArray.size := (Array.getElem?_eq_some_iff.1 h3).1
    simp only
    rw [Array.getElem?_append_left hlt]
    exact h3

/-- The whole of a block stored: in line. -/
theorem WL.storeW {w0 : World} {n : Nat} {ops : Array Oper} {Q : Exit → Act → World → Prop} {rest : List Oper} {ρ : Env} {H : List It} {ty t t' : TypeId} {pos : String} {af : Array Edge} {g : Option (Nat × Bool)} {x y : Operand} (j : Nat) {b sz : Nat} {cs us : Array Value} (hsz : Sized t sz) (hon : onB ops ρ ⟨none, .store t x y, ty, pos, af, g⟩ = some true) (hx : ev ρ x = some (.pointer (some ⟨b, 0, none⟩))) (hy : ev ρ y = some (.agg us)) (h1 : us.toList.all Value.oneCell' = true) (hv : us.size = sz) (hj : H[j]? = some (.blk b t' cs))
    (ho : cs.size = sz) (k : WL w0 n ops Q rest ρ (H.set j (.blk b t' us))) : WL w0 n ops Q (⟨none, .store t x y, ty, pos, af, g⟩ :: rest) ρ H :=
  WL.storeA j hsz hon hx hy (List.all_eq_true.1 h1) hv hj (by omega) (by rw [putAt_all (by omega)]; exact k)

def cellsOf : Value → Array Value
  | .agg cs => cs
  | _ => #[]
def layI (L : List Sto) : It → It
  | .blk g t cs => .blk g t (lay cs L)
  | x => x
def whI (c : Bool) (X : Array Value) : It → It
  | .blk g t cs => .blk g t (bif c then X else cs)
  | x => x
/-- Stores into the block at a place. -/
def blay (L : List Sto) : List It → Nat → List It
  | [], _ => []
  | x :: r, 0 => layI L x :: r
  | x :: r, j + 1 => x :: blay L r j
def bwh (c : Bool) (X : Array Value) : List It → Nat → List It
  | [], _ => []
  | x :: r, 0 => whI c X x :: r
  | x :: r, j + 1 => x :: bwh c X r j
/-- What lies at a place once c. -/
def bnew (c : Bool) (X : It) : List It → Nat → List It
  | [], _ => []
  | x :: r, 0 => (bif c then X else x) :: r
  | x :: r, j + 1 => x :: bnew c X r j
end Go.Proofs.YtlkkiimmangplaaGreatDoor
