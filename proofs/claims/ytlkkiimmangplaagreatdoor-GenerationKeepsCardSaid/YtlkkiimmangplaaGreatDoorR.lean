/- A region that draws its order: one relation over what has been done so far; each operation is shown once, whatever came before it. -/
import Derived.Test.YtlkkiimmangplaaGreatDoorM
import Derived.Orders
namespace Go.Proofs.YtlkkiimmangplaaGreatDoor
open Go.RowKit
set_option linter.unusedVariables false
set_option linter.unusedSimpArgs false

def dps (o : Oper) : List Nat := (o.after.toList.filter (Region.binds .any)).map (·.on)
def acycB (ops : Array Oper) : Bool := (List.range ops.size).all fun i => match ops[i]? with | some o => (dps o).all (fun j => Nat.blt j i) | none => true
theorem acyc {ops : Array Oper} (h : acycB ops = true) {i : Nat} {o : Oper} (ho : ops[i]? = some o) {j : Nat} (hj : j ∈ dps o) : j < i := by
  have hi : i < ops.size := (Array.getElem?_eq_some_iff.1 ho).1
  have h1 := List.all_eq_true.1 h i (List.mem_range.2 hi)
  rw [ho] at h1
  have h2 := List.all_eq_true.1 h1 j hj
  simpa [Nat.blt, Nat.succ_le_iff] using h2
theorem mem_dps {o : Oper} {e : Edge} (he : e ∈ o.after) (hb : Region.binds .any e = true) : e.on ∈ dps o :=
  List.mem_map.2 ⟨e, List.mem_filter.2 ⟨by simpa using he, hb⟩, rfl⟩

def todo (m : Nat) (L : Array Bool) : Nat := (List.range m).countP fun i => !(L.getD i false)
theorem todo_set {m : Nat} {L : Array Bool} {i : Nat} (hi : i < m) (hl : L.size = m) (h : L.getD i false = false) : todo m (L.setIfInBounds i true) + 1 = todo m L := by
  unfold todo
  have key : ∀ (l : List Nat), l.Nodup → (l.countP fun j => !((L.setIfInBounds i true).getD j false)) + (if i ∈ l then 1 else 0) = l.countP fun j => !(L.getD j false) := by
    intro l hn
    induction l with
    | nil => simp
    | cons x r ih =>
      rw [List.nodup_cons] at hn
      rw [List.countP_cons, List.countP_cons]
      have ih' := ih hn.2
      by_cases hx : x = i
      · subst hx
        have h1 : (L.setIfInBounds x true).getD x false = true := by simp [hl, hi]
        rw [if_neg hn.1] at ih'
        simp only [h1, h, Bool.not_true, Bool.not_false, List.mem_cons, true_or, if_true, Bool.false_eq_true, if_false]
        omega
      · have h1 : (L.setIfInBounds i true).getD x false = L.getD x false := by simp [Array.getElem?_setIfInBounds_ne (Ne.symm hx)]
        rw [h1]
        have h2 : (i ∈ x :: r) = (i ∈ r) := by simp [Ne.symm hx]
        simp only [h2]
        omega
  have := key (List.range m) List.nodup_range
  simpa [hi] using this
theorem todo_zero {m : Nat} {L : Array Bool} (h : todo m L = 0) {i : Nat} (hi : i < m) : L.getD i false = true := by
  unfold todo at h
  rw [List.countP_eq_zero] at h
  have := h i (List.mem_range.2 hi)
  simpa using this

section
variable {ops : Array Oper} {Q : Exit → Act → World → Prop}
theorem wpAny_inv (I : Array Bool → Act → World → Prop) (hac : acycB ops = true)
    (hstep : ∀ L a w i o, L.size = ops.size → I L a w → ops[i]? = some o → L.getD i false = false → (∀ j ∈ dps o, L.getD j false = true) → ∀ K : Act → World → Prop, (∀ a' w', I (L.setIfInBounds i true) a' w' → K a' w') →
      if Region.wanted o (yielded ops a.tmps) then o.wp Tryz.prog a w K Q else K (a.put o.dst undef) w)
    (hend : ∀ L a w, I L a w → L.size = ops.size → (∀ i, i < ops.size → L.getD i false = true) → Q .normal a w) :
    ∀ (fuel : Nat) (L : Array Bool) (a : Act) (w : World), L.size = ops.size → todo ops.size L ≤ fuel → I L a w → wpAny Tryz.prog .any ops Q fuel L a w := by
  have hready : ∀ (L : Array Bool), L.size = ops.size → Region.ready .any ops L = [] → ∀ i, i < ops.size → L.getD i false = true := by
    intro L hL hr i
    induction i using Nat.strongRecOn with
    | _ i ih =>
      intro hi
      rcases hq : L.getD i false with _ | _
      · exfalso
        have hmem : i ∈ Region.ready .any ops L := by
          rw [mem_ready]
          have ho : ops[i]? = some ops[i] := by simp [hi]
          refine ⟨?_, ops[i], ho, fun e he hb => ?_⟩
          · have hlt : i < L.size := by omega
            simp only [Array.getD, hlt, dif_pos] at hq ⊢
            exact hq
          · have hlt := acyc hac ho (mem_dps he hb)
            exact ih e.on hlt (by omega)
        rw [hr] at hmem
        cases hmem
      · rfl
  intro fuel
  induction fuel with
  | zero =>
    intro L a w hL ht hI
    have hall : ∀ i, i < ops.size → L.getD i false = true := fun i hi => todo_zero (by omega) hi
    refine ⟨?_, hend L a w hI hL hall⟩
    cases hr : Region.ready .any ops L with
    | nil => rfl
    | cons i r =>
      have hmem : i ∈ Region.ready .any ops L := by rw [hr]; exact List.mem_cons_self
      rw [mem_ready] at hmem
      obtain ⟨h1, o, ho, _⟩ := hmem
      have hi : i < ops.size := (Array.getElem?_eq_some_iff.1 ho).1
      have := hall i hi
      have hlt : i < L.size := by omega
      simp only [Array.getD, hlt, dif_pos] at h1 this
      rw [h1] at this
      cases this
  | succ fuel ih =>
    intro L a w hL ht hI
    refine ⟨fun hr => hend L a w hI hL (hready L hL hr), fun i hmem => ?_⟩
    rw [mem_ready] at hmem
    obtain ⟨h1, o, ho, hd⟩ := hmem
    have hi : i < ops.size := (Array.getElem?_eq_some_iff.1 ho).1
    have hf : L.getD i false = false := by
      have hlt : i < L.size := by omega
      simp only [Array.getD, hlt, dif_pos] at h1 ⊢
      exact h1
    have hdeps : ∀ j ∈ dps o, L.getD j false = true := by
      intro j hj
      obtain ⟨e, he, rfl⟩ := List.mem_map.1 hj
      rw [List.mem_filter] at he
      exact hd e (by simpa using he.1) he.2
    have hgo := hstep L a w i o hL hI ho hf hdeps (wpAny Tryz.prog .any ops Q fuel (L.setIfInBounds i true)) (fun a' w' hI' => ih _ a' w' (by simpa using hL) (by have := todo_set hi hL hf; omega) hI')
    unfold wpOp
    simp only [ho]
    split
    · rename_i hw
      rw [if_pos hw] at hgo
      exact .inl hgo
    · rename_i hw
      rw [if_neg hw] at hgo
      exact hgo
end

/-! ### Over letters: what has been found so far -/
def up (b : Nat → Bool) (i : Nat) : Nat → Bool := fun j => bif Nat.beq j i then true else b j
/-- One operation, from whatever fits, to what T tells of its value and the world. -/
def OS (w0 : World) (n : Nat) (ops : Array Oper) (Q : Exit → Act → World → Prop) (o : Oper) (ρ : Env) (H : List It) (T : Value → World → Prop) : Prop :=
  ∀ a w, Fits n ρ a → St w0 H w → ∀ K : Act → World → Prop, (∀ v w', T v w' → K (a.put o.dst v) w') → if Region.wanted o (yielded ops a.tmps) then o.wp Tryz.prog a w K Q else K (a.put o.dst undef) w

section
variable {w0 : World} {n : Nat} {ops : Array Oper} {Q : Exit → Act → World → Prop} {o : Oper} {ρ : Env} {H : List It} {T : Value → World → Prop}
theorem OS.val (hon : onB ops ρ o = some true) (hr : ∀ a w, Fits n ρ a → St w0 H w → ∃ v w', (execOp a.eval o).run Tryz.prog w = .ok (.value v) w' ∧ T v w') : OS w0 n ops Q o ρ H T := fun a w hf hs K hK => by
  rw [if_pos (wanted_of hf hon)]
  obtain ⟨v, w', h1, h2⟩ := hr a w hf hs
  unfold Oper.wp
  rw [h1, Oper.upon_value]
  exact hK v w' h2
theorem OS.skip_ (hon : onB ops ρ o = some true) (hr : ∀ a w, Fits n ρ a → St w0 H w → ∃ w', (execOp a.eval o).run Tryz.prog w = .ok .skip w' ∧ T undef w') : OS w0 n ops Q o ρ H T := fun a w hf hs K hK => by
  rw [if_pos (wanted_of hf hon)]
  obtain ⟨w', h1, h2⟩ := hr a w hf hs
  unfold Oper.wp
  rw [h1, Oper.upon_skip]
  exact hK undef w' h2
theorem OS.off (hon : onB ops ρ o = some false) (hT : ∀ w, St w0 H w → T undef w) : OS w0 n ops Q o ρ H T := fun a w hf hs K hK => by
  rw [if_neg (by rw [wanted_of hf hon]; simp)]
  exact hK undef w (hT w hs)
theorem OS.callG {f : FuncId} {xs : List Operand} {vs : List Value} {ats : Array TypeId} {cal : Operand} {cap : Array Value} (he : Ent f) (ho : o.op = .call ⟨.value cal, xs.toArray, ats⟩) (hon : onB ops ρ o = some true) (hcal : ev ρ cal = some (.func (.func f) #[] cap)) (hx : evl ρ xs = some vs)
    (hc : ∀ w, St w0 H w → Calls Tryz.prog f (vs.toArray ++ cap) w (fun e w' => ∃ v, e = .returned v ∧ T v w')) : OS w0 n ops Q o ρ H T := fun a w hf hs K hK => by
  rw [if_pos (wanted_of hf hon)]
  have hmap : xs.toArray.map a.eval = vs.toArray := by rw [List.map_toArray, hf.evals hx]
  have hrun : (execOp a.eval o).run Tryz.prog w = .ok (.enter f (vs.toArray ++ cap)) w := by
    simp [execOp, ho, resolve, hf.eval hcal, hmap, Deferred.ofValue, invoke, Sem.run_bind, he (vs.toArray ++ cap) w]
  unfold Oper.wp
  rw [hrun, Oper.upon_enter]
  refine (hc w hs).mono fun e w' h => ?_
  obtain ⟨v, rfl, h⟩ := h
  exact hK v w' h
end

def envOf (ops : Array Oper) (val : Nat → Value) : List Nat → Env
  | [] => []
  | j :: r => match (ops[j]?).bind (·.dst) with
    | some d => (d, val j) :: envOf ops val r
    | none => envOf ops val r
def dstsOf (ops : Array Oper) : List Nat := ops.toList.filterMap (·.dst)
/-- No slot twice. -/
def dstOk (ops : Array Oper) : Bool := decide (dstsOf ops).Nodup
def cleanB (ops : Array Oper) (n : Nat) (ρ : Env) : Bool := ρ.all (fun e => !((dstsOf ops).contains e.1)) && (dstsOf ops).all (fun d => Nat.blt d n)
def clean (ops : Array Oper) (ρ : Env) : Env := ρ.filter fun e => !((dstsOf ops).contains e.1)
theorem clean_sub (ops : Array Oper) (ρ : Env) : Env.sub (clean ops ρ) ρ := by
  induction ρ with
  | nil => exact fun i v h => h
  | cons e r ih =>
    obtain ⟨k, u⟩ := e
    intro i v hi
    unfold clean at hi
    rw [List.filter_cons] at hi
    split at hi
    · unfold Env.find at hi ⊢
      cases hq : Nat.beq k i with
      | true => rw [hq] at hi; exact hi
      | false => rw [hq] at hi; exact ih i v hi
    · rename_i hk
      unfold Env.find
      cases hq : Nat.beq k i with
      | true =>
        exfalso
        have hik := Nat.eq_of_beq_eq_true hq
        subst hik
        have hm := Env.find_mem hi
        rw [List.mem_filter] at hm
        exact hk hm.2
      | false => exact ih i v hi

theorem dst_inj {ops : Array Oper} (h : dstOk ops = true) {i j : Nat} {o p : Oper} {d : Nat} (hi : ops[i]? = some o) (hj : ops[j]? = some p) (ho : o.dst = some d) (hp : p.dst = some d) : i = j := by
  have hn : (dstsOf ops).Nodup := of_decide_eq_true h
  unfold dstsOf at hn
  have hi' : ops.toList[i]? = some o := by simpa using hi
  have hj' : ops.toList[j]? = some p := by simpa using hj
  generalize ops.toList = l at hn hi' hj'
  clear hi hj h
  induction l generalizing i j with
  | nil => simp at hi'
  | cons x r ih =>
    rw [List.filterMap_cons] at hn
    cases i with
    | zero =>
      cases j with
      | zero => rfl
      | succ j =>
        simp at hi' hj'
        subst hi'
        rw [ho] at hn
        simp only [List.nodup_cons] at hn
        exact absurd (List.mem_filterMap.2 ⟨p, List.mem_of_getElem? hj', hp⟩) hn.1
    | succ i =>
      cases j with
      | zero =>
        simp at hi' hj'
        subst hj'
        rw [hp] at hn
        simp only [List.nodup_cons] at hn
        exact absurd (List.mem_filterMap.2 ⟨o, List.mem_of_getElem? hi', ho⟩) hn.1
      | succ j =>
        simp at hi' hj'
        have hn' : (List.filterMap (·.dst) r).Nodup := by
          cases hx : x.dst with
          | none => rw [hx] at hn; exact hn
          | some d' => rw [hx] at hn; simp only [List.nodup_cons] at hn; exact hn.2
        rw [ih hn' hi' hj']

def StepsOf {σ : Type} (w0 : World) (n : Nat) (ops : Array Oper) (Q : Exit → Act → World → Prop) (ρ : Env) (val : Nat → σ → Value) (Hs : (Nat → Bool) → σ → List It) (S : (Nat → Bool) → σ → Prop) : Nat → List Oper → Prop
  | _, [] => True
  | i, o :: r => (∀ b s, b i = false → (∀ j ∈ dps o, b j = true) → S b s → OS w0 n ops Q o (envOf ops (fun j => val j s) (dps o) ++ ρ) (Hs b s)
      (fun v w' => ∃ s', v = val i s' ∧ S (up b i) s' ∧ (∀ j, b j = true → val j s' = val j s) ∧ St w0 (Hs (up b i) s') w')) ∧ StepsOf w0 n ops Q ρ val Hs S (i + 1) r

section
variable {w0 : World} {n : Nat} {ops : Array Oper} {Q : Exit → Act → World → Prop} {ρ : Env} {H : List It} {id : Nat}
theorem StepsOf.get {σ : Type} {val : Nat → σ → Value} {Hs : (Nat → Bool) → σ → List It} {S : (Nat → Bool) → σ → Prop} : ∀ {l : List Oper} {k : Nat}, StepsOf w0 n ops Q ρ val Hs S k l → ∀ {i : Nat} {o : Oper}, l[i]? = some o →
    ∀ b s, b (k + i) = false → (∀ j ∈ dps o, b j = true) → S b s → OS w0 n ops Q o (envOf ops (fun j => val j s) (dps o) ++ ρ) (Hs b s)
      (fun v w' => ∃ s', v = val (k + i) s' ∧ S (up b (k + i)) s' ∧ (∀ j, b j = true → val j s' = val j s) ∧ St w0 (Hs (up b (k + i)) s') w')
  | [], k, h, i, o, hi => by simp at hi
  | x :: r, k, h, 0, o, hi => by
    simp at hi
    subst hi
    exact h.1
  | x :: r, k, h, i + 1, o, hi => by
    have := StepsOf.get h.2 (i := i) (o := o) (by simpa using hi)
    rw [show k + 1 + i = k + (i + 1) by omega] at this
    exact this

theorem Fits.env {a : Act} {val : Nat → Value} (hf : Fits n ρ a) : ∀ (l : List Nat), (∀ j ∈ l, ∀ d, (ops[j]?).bind (·.dst) = some d → a.tmps[d]? = some (val j)) → Fits n (envOf ops val l ++ ρ) a
  | [], _ => hf
  | j :: r, h => by
    have hr := Fits.env hf r (fun i hi => h i (List.mem_cons_of_mem _ hi))
    unfold envOf
    cases hd : (ops[j]?).bind (·.dst) with
    | none => exact hr
    | some d =>
      refine ⟨hr.defers, hr.size, fun i v hi => ?_⟩
      simp only [List.cons_append] at hi
      unfold Env.find at hi
      cases hq : Nat.beq d i with
      | true =>
        rw [hq] at hi
        simp at hi
        subst hi
        rw [← Nat.eq_of_beq_eq_true hq]
        exact h j List.mem_cons_self d hd
      | false => rw [hq] at hi; exact hr.at_ i v hi

theorem WC.inv {σ : Type} (val : Nat → σ → Value) (Hs : (Nat → Bool) → σ → List It) (S : (Nat → Bool) → σ → Prop) (s0 : σ) (hac : acycB ops = true) (hdo : dstOk ops = true) (hcl : cleanB ops n (clean ops ρ) = true)
    (h0 : Hs (fun _ => false) s0 = H) (hS0 : S (fun _ => false) s0) (steps : StepsOf w0 n ops Q (clean ops ρ) val Hs S 0 ops.toList)
    (fin : ∀ s, S (fun i => Nat.blt i ops.size) s → End w0 n Q .normal (envOf ops (fun j => val j s) (List.range ops.size) ++ clean ops ρ) (Hs (fun i => Nat.blt i ops.size) s)) : WC w0 n Q (.region id ops true) ρ H := fun a w hf hs => by
  refine wp_region_any mixed ?_
  simp only [cleanB, Bool.and_eq_true, List.all_eq_true] at hcl
  have hfc := hf.sub (clean_sub ops ρ)
  refine wpAny_inv (fun L a w => ∃ s, S (fun i => L.getD i false) s ∧ Fits n (clean ops ρ) a ∧ (∀ j, L.getD j false = true → ∀ d, (ops[j]?).bind (·.dst) = some d → a.tmps[d]? = some (val j s)) ∧ St w0 (Hs (fun i => L.getD i false) s) w) hac ?_ ?_ _ _ _ _ (by simp) ?_ ?_
  · rintro L a w i o hL ⟨s, hS, hf, hv, hs⟩ ho hi hd K hK
    have hlt : i < ops.size := (Array.getElem?_eq_some_iff.1 ho).1
    have hst := steps.get (i := i) (o := o) (by simpa using ho) (fun i => L.getD i false) s (by simpa using hi) hd hS
    simp only [Nat.zero_add] at hst
    refine hst a w (Fits.env hf _ (fun j hj d hjd => hv j (hd j hj) d hjd)) hs K (fun v w' hT => hK _ _ ?_)
    obtain ⟨s', rfl, hS', hag, hs'⟩ := hT
    have hup : up (fun i => L.getD i false) i = fun j => (L.setIfInBounds i true).getD j false := by
      funext j
      unfold up
      cases hq : Nat.beq j i with
      | true =>
        have := Nat.eq_of_beq_eq_true hq
        subst this
        simp [hL, hlt]
      | false =>
        have hne : i ≠ j := fun e => by subst e; simp at hq
        simp [Array.getElem?_setIfInBounds_ne hne]
    rw [hup] at hS' hs'
    refine ⟨s', hS', ?_, ?_, hs'⟩
    · cases hod : o.dst with
      | none => exact hf.none_
      | some d =>
        have hdm : d ∈ dstsOf ops := List.mem_filterMap.2 ⟨o, by simpa using Array.mem_of_getElem? ho, hod⟩
        refine ⟨hf.defers, by simp [Act.put, hf.size], fun k u hk => ?_⟩
        have hne : d ≠ k := fun e => by
          subst e
          have hm := Env.find_mem hk
          have := hcl.1 _ hm
          simp at this
          exact this hdm
        simp only [Act.put]
        rw [Array.getElem?_setIfInBounds_ne hne]
        exact hf.at_ k u hk
    · intro j hj d hjd
      cases hoj : ops[j]? with
      | none => rw [hoj] at hjd; simp at hjd
      | some p =>
        rw [hoj] at hjd
        simp at hjd
        by_cases hji : i = j
        · subst hji
          rw [ho] at hoj
          injection hoj with e
          subst e
          have hdm : d ∈ dstsOf ops := List.mem_filterMap.2 ⟨o, by simpa using Array.mem_of_getElem? ho, hjd⟩
          have hdn := hcl.2 d hdm
          have hdn' : d < n := by simpa [Nat.blt, Nat.succ_le_iff] using hdn
          simp [hjd, Act.put, hf.size, hdn']
        · have hj' : L.getD j false = true := by
            simpa [Array.getElem?_setIfInBounds_ne hji] using hj
          have h1 := hv j hj' d (by rw [hoj]; simpa using hjd)
          rw [hag j hj']
          cases hod : o.dst with
          | none => exact h1
          | some d' =>
            have hne : d' ≠ d := fun e => by
              subst e
              exact hji (dst_inj hdo ho hoj hod hjd)
            simp only [Act.put]
            rw [Array.getElem?_setIfInBounds_ne hne]
            exact h1
  · rintro L a w ⟨s, hS, hf, hv, hs⟩ hL hall
    have hb : (fun i => L.getD i false) = fun i => Nat.blt i ops.size := by
      funext i
      rcases Nat.lt_or_ge i ops.size with h | h
      · have h1 := hall i h
        have h2 : Nat.blt i ops.size = true := by simpa [Nat.blt, Nat.succ_le_iff] using h
        rw [h2]; exact h1
      · have h2 : Nat.blt i ops.size = false := by
          cases hq : Nat.blt i ops.size with
          | false => rfl
          | true => simp [Nat.blt, Nat.succ_le_iff] at hq; omega
        have h3 : ¬ i < L.size := by omega
        rw [h2]
        simp [h3]
    rw [hb] at hS hs
    exact fin s hS a w (Fits.env hf _ (fun j hj d hjd => hv j (hall j (List.mem_range.1 hj)) d hjd)) hs
  · unfold todo
    exact Nat.le_trans (List.countP_le_length) (by simp)
  · have hb : (fun i => (Array.replicate ops.size false).getD i false) = fun _ => false := by
      funext i
      rcases Nat.lt_or_ge i ops.size with h | h
      · simp [Array.getElem?_replicate, h]
      · simp [Array.getElem?_replicate, Nat.not_lt.2 h]
    refine ⟨s0, by rw [hb]; exact hS0, hfc, fun j hj => ?_, ?_⟩
    · have h := congrFun hb j
      exact absurd (h.symm.trans hj) (by simp)
    · rw [hb, h0]
      exact hs.drew
end
end Go.Proofs.YtlkkiimmangplaaGreatDoor
