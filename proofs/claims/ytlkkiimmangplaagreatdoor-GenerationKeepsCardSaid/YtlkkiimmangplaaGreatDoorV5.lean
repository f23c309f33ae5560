/- Drawing regions that write anew a slot that they read. -/
import Derived.Test.YtlkkiimmangplaaGreatDoorV4
namespace Go.Proofs.YtlkkiimmangplaaGreatDoor
open Go.RowKit
set_option linter.unusedVariables false
set_option linter.unusedSimpArgs false

/-- Slots that the region writes anew, as they stand while operation i runs: who writes them comes behind i. -/
def oldK (ops : Array Oper) (i k : Nat) : Bool := (dstsOf ops).contains k && (List.range ops.size).all fun j => match (ops[j]?).bind (·.dst) with
  | some d => !(Nat.beq d k) || (Nat.beq j i || reachB ops 64 j i)
  | none => true
def oldOf (ops : Array Oper) (ρ : Env) (i : Nat) : Env := ρ.filter fun e => oldK ops i e.1
theorem filter_find {p : Nat → Bool} : ∀ {ρ : Env} {i : Nat} {v : Value}, Env.find (ρ.filter fun e => p e.1) i = some v → p i = true ∧ Env.find ρ i = some v
  | [], i, v, h => by cases h
  | (k, u) :: r, i, v, h => by
    rw [List.filter_cons] at h
    split at h
    · rename_i hk
      unfold Env.find at h ⊢
      cases hq : Nat.beq k i with
      | true =>
        rw [hq] at h
        have e := Nat.eq_of_beq_eq_true hq
        subst e
        exact ⟨hk, h⟩
      | false => rw [hq] at h; exact filter_find h
    · rename_i hk
      obtain ⟨h1, h2⟩ := filter_find h
      refine ⟨h1, ?_⟩
      unfold Env.find
      cases hq : Nat.beq k i with
      | true =>
        have e := Nat.eq_of_beq_eq_true hq
        subst e
        exact absurd h1 hk
      | false => exact h2
section
variable {w0 : World} {n : Nat} {ops : Array Oper} {Q : Exit → Act → World → Prop} {ρ : Env} {H : List It} {id : Nat}
theorem WC.inv2 {σ : Type} (val : Nat → σ → Value) (Hs : (Nat → Bool) → σ → List It) (S : (Nat → Bool) → σ → Prop) (s0 : σ) (hSc : ∀ b s, S b s → Closed ops b) (hac : acycB ops = true) (hdo : dstOk ops = true) (hcl : (dstsOf ops).all (fun d => Nat.blt d n) = true)
    (h0 : Hs (fun _ => false) s0 = H) (hS0 : S (fun _ => false) s0) (steps : ∀ (i : Nat) (o : Oper), ops[i]? = some o → ∀ b s, b i = false → (∀ j ∈ dps o, b j = true) → S b s → OS w0 n ops Q o (envOf ops (fun j => val j s) (dps o) ++ (clean ops ρ ++ oldOf ops ρ i)) (Hs b s)
      (fun v w' => ∃ s', v = val i s' ∧ S (up b i) s' ∧ (∀ j, b j = true → val j s' = val j s) ∧ St w0 (Hs (up b i) s') w'))
    (fin : ∀ s, S (fun i => Nat.blt i ops.size) s → End w0 n Q .normal (envOf ops (fun j => val j s) (List.range ops.size) ++ clean ops ρ) (Hs (fun i => Nat.blt i ops.size) s)) : WC w0 n Q (.region id ops true) ρ H := fun a w hf hs => by
  refine wp_region_any mixed ?_
  simp only [List.all_eq_true] at hcl
  -- slots that no operation done so far has written
  refine wpAny_inv (fun L a w => ∃ s, S (fun i => L.getD i false) s ∧ (a.defers = [] ∧ a.tmps.size = n ∧ ∀ k v, Env.find ρ k = some v → (∀ j, L.getD j false = true → (ops[j]?).bind (·.dst) ≠ some k) → a.tmps[k]? = some v) ∧ (∀ j, L.getD j false = true → ∀ d, (ops[j]?).bind (·.dst) = some d → a.tmps[d]? = some (val j s)) ∧ St w0 (Hs (fun i => L.getD i false) s) w) hac ?_ ?_ _ _ _ _ (by simp) ?_ ?_
  · rintro L a w i o hL ⟨s, hS, hf, hv, hs⟩ ho hi hd K hK
    have hlt : i < ops.size := (Array.getElem?_eq_some_iff.1 ho).1
    have hclosed := hSc _ _ hS
    have hfit : Fits n (clean ops ρ ++ oldOf ops ρ i) a := ⟨hf.1, hf.2.1, fun k v hk => by
      rw [Env.find_app] at hk
      cases hq : Env.find (clean ops ρ) k with
      | some u =>
        rw [hq] at hk
        simp at hk
        subst hk
        obtain ⟨h1, h2⟩ := filter_find (p := fun k => !((dstsOf ops).contains k)) hq
        refine hf.2.2 k u h2 fun j _ hjd => ?_
        have hm : k ∈ dstsOf ops := by
          cases hoj : ops[j]? with
          | none => rw [hoj] at hjd; cases hjd
          | some p => rw [hoj] at hjd; exact List.mem_filterMap.2 ⟨p, by simpa using Array.mem_of_getElem? hoj, hjd⟩
        simp at h1
        exact h1 hm
      | none =>
        rw [hq] at hk
        obtain ⟨h1, h2⟩ := filter_find (p := oldK ops i) hk
        refine hf.2.2 k v h2 fun j hj hjd => ?_
        have hjl : j < ops.size := by
          cases hoj : ops[j]? with
          | none => rw [hoj] at hjd; cases hjd
          | some p => exact (Array.getElem?_eq_some_iff.1 hoj).1
        unfold oldK at h1
        rw [Bool.and_eq_true] at h1
        have h3 := List.all_eq_true.1 h1.2 j (List.mem_range.2 hjl)
        rw [hjd] at h3
        simp only [Bool.or_eq_true, Nat.beq_refl, Bool.not_true, Bool.false_eq_true, false_or] at h3
        have hbi : L.getD i false = true := by
          rcases h3 with h3 | h3
          · rw [← Nat.eq_of_beq_eq_true h3]; exact hj
          · exact reach_closed hclosed _ _ _ h3 hj
        have hi' : L.getD i false = false := hi
        rw [hi'] at hbi; cases hbi⟩
    have hst := steps i o ho (fun i => L.getD i false) s (by simpa using hi) hd hS
    refine hst a w (Fits.env hfit _ (fun j hj d hjd => hv j (hd j hj) d hjd)) hs K (fun v w' hT => hK _ _ ?_)
    obtain ⟨s', rfl, hS', hag, hs'⟩ := hT
    have hup : up (fun i => L.getD i false) i = fun j => (L.setIfInBounds i true).getD j false := by
      funext j
      unfold up
      cases hq : Nat.beq j i with
      | true =>
        have := Nat.eq_of_beq_eq_true hq
        subst this
        simp [hL, hlt]
      | false =>
        have hne : i ≠ j := fun e => by subst e; simp at hq
        simp [Array.getElem?_setIfInBounds_ne hne]
    rw [hup] at hS' hs'
    refine ⟨s', hS', ?_, ?_, hs'⟩
    · refine ⟨?_, ?_, fun k u hk hno => ?_⟩
      · cases o.dst <;> exact hf.1
      · cases hod : o.dst with
        | none => exact hf.2.1
        | some d => simp [Act.put, hf.2.1]
      · have hdone : ∀ j, L.getD j false = true → (ops[j]?).bind (·.dst) ≠ some k := fun j hj => hno j (by
          by_cases hji : i = j
          · subst hji; simp [hL, hlt]
          · simpa [Array.getElem?_setIfInBounds_ne hji] using hj)
        have h1 := hf.2.2 k u hk hdone
        cases hod : o.dst with
        | none => exact h1
        | some d =>
          have hne : d ≠ k := fun e => by
            subst e
            exact hno i (by simp [hL, hlt]) (by rw [ho]; exact hod)
          simp only [Act.put]
          rw [Array.getElem?_setIfInBounds_ne hne]
          exact h1
    · intro j hj d hjd
      cases hoj : ops[j]? with
      | none => rw [hoj] at hjd; simp at hjd
      | some p =>
        rw [hoj] at hjd
        simp at hjd
        by_cases hji : i = j
        · subst hji
          rw [ho] at hoj
          injection hoj with e
          subst e
          have hdm : d ∈ dstsOf ops := List.mem_filterMap.2 ⟨o, by simpa using Array.mem_of_getElem? ho, hjd⟩
          have hdn := hcl d hdm
          have hdn' : d < n := by simpa [Nat.blt, Nat.succ_le_iff] using hdn
          simp [hjd, Act.put, hf.2.1, hdn']
        · have hj' : L.getD j false = true := by
            simpa [Array.getElem?_setIfInBounds_ne hji] using hj
          have h1 := hv j hj' d (by rw [hoj]; simpa using hjd)
          rw [hag j hj']
          cases hod : o.dst with
          | none => exact h1
          | some d' =>
            have hne : d' ≠ d := fun e => by
              subst e
              exact hji (dst_inj hdo ho hoj hod hjd)
            simp only [Act.put]
            rw [Array.getElem?_setIfInBounds_ne hne]
            exact h1
  · rintro L a w ⟨s, hS, hf, hv, hs⟩ hL hall
    have hb : (fun i => L.getD i false) = fun i => Nat.blt i ops.size := by
      funext i
      rcases Nat.lt_or_ge i ops.size with h | h
      · have h1 := hall i h
        have h2 : Nat.blt i ops.size = true := by simpa [Nat.blt, Nat.succ_le_iff] using h
        rw [h2]; exact h1
      · have h2 : Nat.blt i ops.size = false := by
          cases hq : Nat.blt i ops.size with
          | false => rfl
          | true => simp [Nat.blt, Nat.succ_le_iff] at hq; omega
        have h3 : ¬ i < L.size := by omega
        rw [h2]
        simp [h3]
    rw [hb] at hS hs
    have hfit : Fits n (clean ops ρ) a := ⟨hf.1, hf.2.1, fun k v hk => by
      obtain ⟨h1, h2⟩ := filter_find (p := fun k => !((dstsOf ops).contains k)) hk
      refine hf.2.2 k v h2 fun j _ hjd => ?_
      have hm : k ∈ dstsOf ops := by
        cases hoj : ops[j]? with
        | none => rw [hoj] at hjd; cases hjd
        | some p => rw [hoj] at hjd; exact List.mem_filterMap.2 ⟨p, by simpa using Array.mem_of_getElem? hoj, hjd⟩
      simp at h1
      exact h1 hm⟩
    exact fin s hS a w (Fits.env hfit _ (fun j hj d hjd => hv j (hall j (List.mem_range.1 hj)) d hjd)) hs
  · unfold todo
    exact Nat.le_trans (List.countP_le_length) (by simp)
  · have hb : (fun i => (Array.replicate ops.size false).getD i false) = fun _ => false := by
      funext i
      rcases Nat.lt_or_ge i ops.size with h | h
      · simp [Array.getElem?_replicate, h]
      · simp [Array.getElem?_replicate, Nat.not_lt.2 h]
    refine ⟨s0, by rw [hb]; exact hS0, ⟨hf.defers, hf.size, fun k v hk _ => hf.at_ k v hk⟩, fun j hj => ?_, ?_⟩
    · have h := congrFun hb j
      exact absurd (h.symm.trans hj) (by simp)
    · rw [hb, h0]
      exact hs.drew
def Stps2 (w0 : World) (n : Nat) (ops : Array Oper) (Q : Exit → Act → World → Prop) (ρ : Env) (vs : List (Lt → Value)) (Hs : (Nat → Bool) → Lt → List It) (al : List Nat) : Nat → List Oper → Prop
  | _, [] => True
  | i, o :: r => Stp w0 n ops Q (clean ops ρ ++ oldOf ops ρ i) vs Hs al i o ∧ Stps2 w0 n ops Q ρ vs Hs al (i + 1) r
variable {vs : List (Lt → Value)} {Hs : (Nat → Bool) → Lt → List It} {al : List Nat} {i : Nat} {o : Oper} {r : List Oper}
theorem Stps2.nil : Stps2 w0 n ops Q ρ vs Hs al i [] := trivial
theorem Stps2.cons (h : Stp w0 n ops Q (clean ops ρ ++ oldOf ops ρ i) vs Hs al i o) (k : Stps2 w0 n ops Q ρ vs Hs al (i + 1) r) : Stps2 w0 n ops Q ρ vs Hs al i (o :: r) := ⟨h, k⟩
theorem Stps2.get : ∀ {l : List Oper} {k : Nat}, Stps2 w0 n ops Q ρ vs Hs al k l → ∀ {i : Nat} {o : Oper}, l[i]? = some o → Stp w0 n ops Q (clean ops ρ ++ oldOf ops ρ (k + i)) vs Hs al (k + i) o
  | [], k, h, i, o, hi => by simp at hi
  | x :: r, k, h, 0, o, hi => by
    simp at hi
    subst hi
    exact h.1
  | x :: r, k, h, i + 1, o, hi => by
    have := Stps2.get h.2 (i := i) (o := o) (by simpa using hi)
    rw [show k + 1 + i = k + (i + 1) by omega] at this
    exact this
theorem WC.draws2 {Hs : (Nat → Lt → Value) → List It → (Nat → Bool) → Lt → List It} (al : List Nat) (hac : acycB ops = true) (hdo : dstOk ops = true) (hcl : (dstsOf ops).all (fun d => Nat.blt d n) = true)
    (h0 : ∀ s, Hs (nth vs) H (fun _ => false) s = H) (steps : Stps2 w0 n ops Q ρ vs (Hs (nth vs) H) al 0 ops.toList) (agree : AgrAll ops vs al)
    (fin : ∀ s, End w0 n Q .normal (envOf ops (fun j => nth vs j s) (List.range ops.size) ++ clean ops ρ) (Hs (nth vs) H (fun i => Nat.blt i ops.size) s)) : WC w0 n Q (.region id ops true) ρ H := by
  refine WC.inv2 (σ := Lt) (nth vs) (Hs (nth vs) H) (fun b _ => Closed ops b) (fun _ => (0, 0)) (fun b s h => h) hac hdo hcl (h0 _) (fun i o _ h => by cases h) ?_ (fun s _ => fin s)
  intro i o ho b s hb hd hS a w hf hs K hK
  have hst := Stps2.get steps (i := i) (o := o) (by simpa using ho)
  rw [Nat.zero_add] at hst
  refine hst b s hS hb hd a w hf hs K (fun v w' hT => hK v w' ?_)
  obtain ⟨s', hs', hv, hst⟩ := hT
  refine ⟨s', hv, hS.up ho hd, fun j hj => ?_, hst⟩
  rcases hs' with rfl | ⟨hi, x, rfl⟩
  · rfl
  · exact AgrL.get hS hb vs 0 (agree.get hi) j (by rw [Nat.zero_add]; exact hj) s x
end
/-- Behind a drawing region that writes some slots anew: its slots, and the others as they were. -/
theorem End.shapeD {w0 : World} {n : Nat} {Q : Exit → Act → World → Prop} {H H' : List It} {ops : Array Oper} {val : Nat → Value} {l : List Nat} {ρ new : Env} {e : Exit} (hc : ρ.all (fun e => !((dstsOf ops).contains e.1) || new.any (fun q => Nat.beq q.1 e.1)) = true) (hn : Env.sub new (envOf ops val l ++ clean ops ρ)) (h2 : H = H') (k : End w0 n Q e (new ++ ρ) H') : End w0 n Q e (envOf ops val l ++ clean ops ρ) H := by
  refine End.shape (ρ' := new ++ ρ) (fun i v hi => ?_) h2 k
  rw [Env.find_app] at hi
  cases hq : Env.find new i with
  | some u =>
    rw [hq] at hi
    simp at hi
    subst hi
    exact hn i u hq
  | none =>
    rw [hq] at hi
    simp only at hi
    have hm := Env.find_mem hi
    have h3 := List.all_eq_true.1 hc _ hm
    have hnd : ¬ i ∈ dstsOf ops := fun hd => by
      rw [Bool.or_eq_true] at h3
      rcases h3 with h3 | h3
      · simp at h3; exact h3 hd
      · obtain ⟨q, hq1, hq2⟩ := List.any_eq_true.1 h3
        have := Env.find_none hq q hq1
        rw [this] at hq2; cases hq2
    rw [Env.find_app]
    cases ht : Env.find (envOf ops val l) i with
    | some u => exact absurd (envOf_keys (Env.find_mem ht)) hnd
    | none =>
      simp only
      have key : ∀ (ρ : Env), Env.find ρ i = some v → Env.find (clean ops ρ) i = some v := by
        intro ρ
        induction ρ with
        | nil => intro h; cases h
        | cons q r ih =>
          obtain ⟨k, u⟩ := q
          intro h
          unfold Env.find at h
          unfold clean
          rw [List.filter_cons]
          cases hq' : Nat.beq k i with
          | true =>
            rw [hq'] at h
            have e := Nat.eq_of_beq_eq_true hq'
            subst e
            rw [if_pos (by simpa using hnd)]
            unfold Env.find
            rw [hq']
            exact h
          | false =>
            rw [hq'] at h
            split
            · unfold Env.find
              rw [hq']
              exact ih h
            · exact ih h
      exact key ρ hi

end Go.Proofs.YtlkkiimmangplaaGreatDoor
