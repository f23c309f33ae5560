/- Calls that turn the caller's own memory. -/
import Derived.Test.YtlkkiimmangplaaGreatDoorC
namespace Go.Proofs.YtlkkiimmangplaaGreatDoor
open Go.RowKit
set_option linter.unusedVariables false
set_option linter.unusedSimpArgs false
/-- It hands back v, and own memory is H. -/
def Mo (w0 : World) (v : Value) (H : List It) : Ending → World → Prop := fun e w' => e = .returned v ∧ St w0 H w'
theorem St.tail {w0 w : World} {x : It} {H : List It} (h : St w0 (x :: H) w) : St w0 H w :=
  ⟨h.below, fun i y hy => h.ok (i + 1) y (by simpa using hy), fun i j y z hy hz hij => h.apart (i + 1) (j + 1) y z (by simpa using hy) (by simpa using hz) (by omega)⟩
theorem St.swap2 {w0 w : World} {x y : It} {H : List It} (h : St w0 (x :: y :: H) w) : St w0 (y :: x :: H) w := by
  have hg : ∀ (i : Nat) (z : It), (y :: x :: H)[i]? = some z → (x :: y :: H)[if i = 0 then 1 else if i = 1 then 0 else i]? = some z := by
    intro i z hz
    match i with
    | 0 => simpa using hz
    | 1 => simpa using hz
    | i + 2 => simpa using hz
  refine ⟨h.below, fun i z hz => h.ok _ z (hg i z hz), fun i j z u hz hu hij => h.apart _ _ z u (hg i z hz) (hg j u hu) (by split <;> split <;> (try split) <;> (try split) <;> omega)⟩
theorem Mo.swap2 {w0 : World} {v : Value} {x y : It} {H : List It} {e : Ending} {w : World} (h : Mo w0 v (x :: y :: H) e w) : Mo w0 v (y :: x :: H) e w := ⟨h.1, h.2.swap2⟩
theorem Mo.of {w0 : World} {u v : Value} {H H' : List It} {w : World} (e : v = u) (eH : H = H') (h : St w0 H w) : Mo w0 u H' (.returned v) w := ⟨by rw [e], eH ▸ h⟩
/-- From far: a call that leaves all as it was, told from further above. -/
theorem RetV.mo {w0 w : World} {H : List It} {v : Value} {e : Ending} {w' : World} (hs : St w0 H w) (h : RetV w v e w') : Mo w0 v H e w' := ⟨h.1, by simpa using hs.call h.2⟩
theorem foldl_putAt (off : Nat) : ∀ (l : List Value) (k : Nat) (cs : Array Value), (l.zipIdx k).foldl (fun cs (p : Value × Nat) => cs.setIfInBounds (off + p.2) p.1) cs = putAt cs (off + k) l
  | [], k, cs => rfl
  | v :: r, k, cs => by
    rw [List.zipIdx_cons, List.foldl_cons, foldl_putAt off r (k + 1)]
    rfl
theorem putAt_append : ∀ (vs ws : List Value) (cs : Array Value) (o : Nat), putAt (putAt cs o vs) (o + vs.length) ws = putAt cs o (vs ++ ws)
  | [], ws, cs, o => rfl
  | v :: r, ws, cs, o => by
    show putAt (putAt (cs.setIfInBounds o v) (o + 1) r) (o + (r.length + 1)) ws = _
    rw [show o + (r.length + 1) = o + 1 + r.length by omega, putAt_append r ws]
    rfl
def flatC (us : List Value) : List Value := us.flatMap (fun v => v.cells.toList)
theorem fill_row {sz : Nat} : ∀ (us : List Value) (k : Nat) (cs : Array Value), us.all (fun v => Nat.beq v.cells.size sz) = true → (k + us.length) * sz ≤ cs.size →
    Instr.fill (fun i => some (i * sz, sz)) cs ((List.range' k us.length).zip us) = some (putAt cs (k * sz) (flatC us))
  | [], k, cs, _, _ => rfl
  | v :: r, k, cs, h, hl => by
    rw [List.all_cons, Bool.and_eq_true] at h
    have hv : v.cells.size = sz := Nat.eq_of_beq_eq_true h.1
    simp only [List.length_cons] at hl ⊢
    rw [List.range'_succ, List.zip_cons_cons]
    unfold Instr.fill
    have hroom : k * sz + sz ≤ cs.size := by
      have : (k + 1) * sz ≤ (k + (r.length + 1)) * sz := Nat.mul_le_mul_right _ (by omega)
      rw [Nat.succ_mul] at this
      omega
    have hcond : (decide (v.cells.size ≠ sz) || decide (k * sz + v.cells.size > cs.size)) = false := by
      rw [hv]; simp; omega
    simp only [hcond]
    have e1 : v.cells.zipIdx.foldl (fun cs (p : Value × Nat) => cs.setIfInBounds (k * sz + p.2) p.1) cs = putAt cs (k * sz) v.cells.toList := by
      rw [← Array.foldl_toList, Array.toList_zipIdx, foldl_putAt]; rfl
    have e2 : ∀ x, x = putAt cs (k * sz) v.cells.toList → Instr.fill (fun i => some (i * sz, sz)) x ((List.range' (k + 1) r.length).zip r) = some (putAt cs (k * sz) (flatC (v :: r))) := by
      rintro _ rfl
      rw [fill_row r (k + 1) _ h.2 (by rw [putAt_size]; rw [show k + 1 + r.length = k + (r.length + 1) by omega]; exact hl)]
      rw [show (k + 1) * sz = k * sz + v.cells.toList.length by rw [Nat.succ_mul]; simp [hv], putAt_append]
      rfl
    exact e2 _ e1
theorem flatC_length {sz : Nat} : ∀ (us : List Value), us.all (fun v => Nat.beq v.cells.size sz) = true → (flatC us).length = us.length * sz
  | [], _ => by simp [flatC]
  | v :: r, h => by
    rw [List.all_cons, Bool.and_eq_true] at h
    have hv : v.cells.size = sz := Nat.eq_of_beq_eq_true h.1
    have := flatC_length r h.2
    simp [flatC] at this ⊢
    rw [this, hv, Nat.succ_mul, Nat.add_comm]
theorem run_row {t e sz : Nat} {z : Value} {us : List Value} (hu : Tryz.prog.underlying t = some (.slice e)) (hsz : Sized e sz) (hz : ∀ w : World, (zeroValue e).run Tryz.prog w = .ok z w)
    (hm : Nat.ble (us.length * sz) 1000 = true) (h0 : Nat.beq (us.length * sz) 0 = false) (h : us.all (fun v => Nat.beq v.cells.size sz) = true) (w : World) : (Instr.buildSlice t us.length ((List.range' 0 us.length).zip us).toArray).run Tryz.prog w = .ok (.slice (some ⟨w.heap.size, 0, none⟩) us.length us.length) (w.alloc (.cells (flatC us).toArray e)) := by
  refine run_buildSlice hu hsz hz hm h0 ?_ w
  have := fill_row us 0 ((Array.range (us.length * sz)).map (z.cells[· % z.cells.size]!)) h (by simp)
  rw [this, Nat.zero_mul]
  have e := putAt_all (cs := (Array.range (us.length * sz)).map (z.cells[· % z.cells.size]!)) (us := (flatC us).toArray) (by simp [flatC_length us h])
  simpa using e
theorem run_rowL {t e sz m : Nat} {z : Value} {us : List Value} {is : List Nat} {cs : Array Value} (hu : Tryz.prog.underlying t = some (.slice e)) (hsz : Sized e sz) (hz : ∀ w : World, (zeroValue e).run Tryz.prog w = .ok z w)
    (hlen : us.length = m) (his : is = List.range' 0 m) (hm : Nat.ble (m * sz) 1000 = true) (h0 : Nat.beq (m * sz) 0 = false) (h : us.all (fun v => Nat.beq v.cells.size sz) = true) (hcs : (flatC us).toArray = cs) (w : World) : (Instr.buildSlice t m (is.zip us).toArray).run Tryz.prog w = .ok (.slice (some ⟨w.heap.size, 0, none⟩) m m) (w.alloc (.cells cs e)) := by
  subst hlen his hcs
  exact run_row hu hsz hz hm h0 h w
def notBool : Value → Bool
  | .bool _ => false
  | _ => true
def onU (ops : Array Oper) (ρ : Env) (o : Oper) : Bool :=
  match o.guard with
  | none => false
  | some (j, _) => match (ops[j]?).bind (·.dst) with
    | some s => match Env.find ρ s with
      | some v => notBool v
      | none => false
    | none => false
theorem wanted_undef {n : Nat} {ρ : Env} {a : Act} {ops : Array Oper} {o : Oper} (hf : Fits n ρ a) (h : onU ops ρ o = true) : Region.wanted o (yielded ops a.tmps) = false := by
  unfold onU at h
  unfold Region.wanted
  cases hg : o.guard with
  | none => rw [hg] at h; cases h
  | some jb =>
    obtain ⟨j, want⟩ := jb
    rw [hg] at h
    simp only at h ⊢
    cases hs : (ops[j]?).bind (·.dst) with
    | none => rw [hs] at h; cases h
    | some s =>
      rw [hs] at h
      simp only at h
      cases hv : Env.find ρ s with
      | none => rw [hv] at h; cases h
      | some v =>
        rw [hv] at h
        have ht := hf.at_ s v hv
        have hy : yielded ops a.tmps j = none := by
          unfold yielded
          rw [hs]
          cases v <;> simp [notBool] at h <;> simp [ht]
        rw [hy]
        cases want <;> rfl
theorem WL.offU {w0 : World} {n : Nat} {ops : Array Oper} {Q : Exit → Act → World → Prop} {o : Oper} {rest : List Oper} {ρ : Env} {H : List It} (hon : onU ops ρ o = true) (hd : dlt o.dst n = true) (k : WL w0 n ops Q rest (dput o.dst undef ρ) H) : WL w0 n ops Q (o :: rest) ρ H := fun a w hf hs => by
  unfold wpList
  rw [if_neg (by rw [wanted_undef hf hon]; simp)]
  exact k _ _ (hf.dput hd) hs
theorem WQ.offU {w0 : World} {n : Nat} {ops : Array Oper} {Q : Exit → Act → World → Prop} {o : Oper} {rest : List Oper} {ρ : Env} {H : List It} (hon : onU ops ρ o = true) (hd : dlt o.dst n = true) (k : WQ w0 n ops Q rest (dput o.dst undef ρ) H) : WQ w0 n ops Q (o :: rest) ρ H := fun a hf => by
  unfold wpQuiet
  rw [if_neg (by rw [wanted_undef hf hon]; simp)]
  exact k _ (hf.dput hd)
theorem sel_range {H : List It} : sel H (List.range H.length) = H := by
  apply List.ext_getElem?
  intro i
  unfold sel
  rw [List.getElem?_map]
  rcases Nat.lt_or_ge i H.length with h | h
  · rw [List.getElem?_range h]; simp [h]
  · rw [List.getElem?_eq_none (by simpa using h), List.getElem?_eq_none h]; rfl
theorem selOk_range {H : List It} : selOk H (List.range H.length) = true := by
  unfold selOk
  rw [Bool.and_eq_true]
  refine ⟨List.all_eq_true.2 fun i hi => ?_, decide_eq_true List.nodup_range⟩
  have := List.mem_range.1 hi
  simpa [Nat.blt, Nat.succ_le_iff] using this
section
variable {w0 : World} {n : Nat} {ops : Array Oper} {Q : Exit → Act → World → Prop} {o : Oper} {rest : List Oper} {ρ : Env} {H : List It}
variable {d : Nat} {ty t t' : TypeId} {pos : String} {af : Array Edge} {g : Option (Nat × Bool)} {x y z : Operand} {v u : Value}
theorem WL.callo {H' : List It} {f : FuncId} {xs : List Operand} {vs : List Value} {ats : Array TypeId} (he : Ent f)
    (hon : onB ops ρ ⟨some d, .call ⟨.value (.func f), xs.toArray, ats⟩, ty, pos, af, g⟩ = some true) (hd : Nat.blt d n = true) (hx : evl ρ xs = some vs)
    (hc : ∀ w, St w0 H w → Calls Tryz.prog f vs.toArray w (Mo w0 v H'))
    (k : WL w0 n ops Q rest ((d, v) :: ρ) H') : WL w0 n ops Q (⟨some d, .call ⟨.value (.func f), xs.toArray, ats⟩, ty, pos, af, g⟩ :: rest) ρ H :=
  WL.callm (α := Unit) (S := fun _ => True) (v := fun _ => v) (H' := fun _ => H') he hon hd hx (fun w hs => (hc w hs).mono fun e w' ⟨h1, h2⟩ => ⟨(), trivial, h1, h2⟩) (fun _ _ => k)
theorem WL.callco {H' : List It} {f : FuncId} {xs : List Operand} {vs : List Value} {ats : Array TypeId} {cap : Array Value} (he : Ent f)
    (hon : onB ops ρ ⟨some d, .call ⟨.value x, xs.toArray, ats⟩, ty, pos, af, g⟩ = some true) (hd : Nat.blt d n = true) (hcal : ev ρ x = some (.func (.func f) #[] cap)) (hx : evl ρ xs = some vs)
    (hc : ∀ w, St w0 H w → Calls Tryz.prog f (vs.toArray ++ cap) w (Mo w0 v H'))
    (k : WL w0 n ops Q rest ((d, v) :: ρ) H') : WL w0 n ops Q (⟨some d, .call ⟨.value x, xs.toArray, ats⟩, ty, pos, af, g⟩ :: rest) ρ H :=
  WL.callG (α := Unit) (S := fun _ => True) (v := fun _ => v) (H' := fun _ => H') he rfl rfl hon hd hcal hx (fun w hs => (hc w hs).mono fun e w' ⟨h1, h2⟩ => ⟨(), trivial, h1, h2⟩) (fun _ _ => k)
theorem P.makeBound {f : FuncId} {xs ys : List Operand} {vs us : List Value} (hx : evl ρ xs = some vs) (hy : evl ρ ys = some us)
    : Pure w0 n ρ H ⟨some d, .makeFunc (.func f) ys.toArray xs.toArray, ty, pos, af, g⟩ (.func (.func f) us.toArray vs.toArray) :=
  fun a w hf hs => by
    have hmap : xs.toArray.map a.eval = vs.toArray := by rw [List.map_toArray, hf.evals hx]
    have hmap' : ys.toArray.map a.eval = us.toArray := by rw [List.map_toArray, hf.evals hy]
    simp [execOp, Instr.makeFunc, hmap, hmap']
/-- A call of a bound method. -/
theorem WL.callb {f : FuncId} {xs : List Operand} {vs : List Value} {ats : Array TypeId} {bd cap : Array Value} (he : Ent f)
    (hon : onB ops ρ ⟨some d, .call ⟨.value x, xs.toArray, ats⟩, ty, pos, af, g⟩ = some true) (hd : Nat.blt d n = true) (hcal : ev ρ x = some (.func (.func f) bd cap)) (hx : evl ρ xs = some vs)
    (hc : ∀ w, St w0 H w → Calls Tryz.prog f (bd ++ vs.toArray ++ cap) w (Mo w0 v H))
    (k : WL w0 n ops Q rest ((d, v) :: ρ) H) : WL w0 n ops Q (⟨some d, .call ⟨.value x, xs.toArray, ats⟩, ty, pos, af, g⟩ :: rest) ρ H :=
  WL.on hon fun a w hf hs => by
    have hmap : xs.toArray.map a.eval = vs.toArray := by rw [List.map_toArray, hf.evals hx]
    have hrun : (execOp a.eval ⟨some d, .call ⟨.value x, xs.toArray, ats⟩, ty, pos, af, g⟩).run Tryz.prog w = .ok (.enter f (bd ++ vs.toArray ++ cap)) w := by
      simp [execOp, resolve, hf.eval hcal, hmap, Deferred.ofValue, invoke, Sem.run_bind, he (bd ++ (vs.toArray ++ cap)) w]
    unfold Oper.wp
    rw [hrun, Oper.upon_enter]
    refine (hc w hs).mono fun e w' h => ?_
    obtain ⟨rfl, hst⟩ := h
    exact k _ _ (hf.put hd) hst
/-- A read that holds wherever own memory is so. -/
theorem P.loadH {ad : Addr} (hag : NoAgg t) (hx : ev ρ x = some (.pointer (some ad))) (hv : ∀ w, St w0 H w → w.cell? ad = some v) : Pure w0 n ρ H ⟨some d, .load t x, ty, pos, af, g⟩ v :=
  fun a w hf hs => by simp [execOp, hf.eval hx, run_loadAt_cell hag (hv w hs)]
variable {vs : List (Lt → Value)} {Hs : (Nat → Bool) → Lt → List It} {al : List Nat} {i : Nat}
/-- What comes behind has not been done. -/
theorem Stp.off (ks : List Nat) (hks : ks.all (fun k => reachB ops 64 k i && !(Nat.beq i k)) = true) (h : Stp w0 n ops Q ρ vs (fun b s => Hs (offl ks b) s) al i o) : Stp w0 n ops Q ρ vs Hs al i o := fun b s hcl hb hd => by
  have key : ∀ c : Nat → Bool, (∀ k ∈ ks, c k = false) → offl ks c = c := by
    intro c hc
    funext k
    unfold offl
    cases hq : ks.any (fun x => Nat.beq x k) with
    | false => rfl
    | true =>
      obtain ⟨x, hx, hxk⟩ := List.any_eq_true.1 hq
      rw [← Nat.eq_of_beq_eq_true hxk, hc x hx]; rfl
  have h1 : ∀ k ∈ ks, b k = false := by
    intro k hk
    have := List.all_eq_true.1 hks k hk
    rw [Bool.and_eq_true] at this
    cases hbk : b k with
    | false => rfl
    | true =>
      have := reach_closed hcl _ _ _ this.1 hbk
      rw [hb] at this; cases this
  have h2 : ∀ k ∈ ks, up b i k = false := by
    intro k hk
    have := List.all_eq_true.1 hks k hk
    rw [Bool.and_eq_true] at this
    have hne : Nat.beq k i = false := by
      have h3 := this.2
      cases hq : Nat.beq k i with
      | false => rfl
      | true =>
        rw [Nat.eq_of_beq_eq_true hq] at h3
        simp at h3
    unfold up
    rw [hne]
    exact h1 k hk
  have := h b s hcl hb hd
  simp only [key b h1, key (up b i) h2] at this
  exact this
/-- A slice literal. -/
theorem Stp.row {e m : Nat} {ps : List (Nat × Operand)} (j : Nat) (hi : al.contains i = true) (hr : ∀ (b : Nat → Bool) (s : Lt), (onB ops (envOf ops (fun j => nth vs j s) (dps ⟨some d, .buildSlice t m ps.toArray, ty, pos, af, g⟩) ++ ρ) ⟨some d, .buildSlice t m ps.toArray, ty, pos, af, g⟩ = some true) ∧
      ∃ (us : List Value) (cs : Array Value), evl (envOf ops (fun j => nth vs j s) (dps ⟨some d, .buildSlice t m ps.toArray, ty, pos, af, g⟩) ++ ρ) (ps.map (·.2)) = some us ∧ (∀ w : World, (Instr.buildSlice t m ((ps.map (·.1)).zip us).toArray).run Tryz.prog w = .ok (.slice (some ⟨w.heap.size, 0, none⟩) m m) (w.alloc (.cells cs e))) ∧
      ∀ q, nth vs i (updl s i (q, 0)) = .slice (some ⟨q, 0, none⟩) m m ∧ ∃ X, (Hs b s)[j]? = some (bif b i then X else .nil) ∧ (b i = false → Hs (up b i) (updl s i (q, 0)) = (Hs b s).set j (.blk q e cs))) : Stp w0 n ops Q ρ vs Hs al i ⟨some d, .buildSlice t m ps.toArray, ty, pos, af, g⟩ := fun b s hcl hb hd => by
  obtain ⟨hon, us, cs, hx, hbs, hq⟩ := hr b s
  refine OS.val hon fun a w hf hs => ⟨.slice (some ⟨w.heap.size, 0, none⟩) m m, w.alloc (.cells cs e), ?_, ?_⟩
  · have hmap : (ps.toArray.map fun (i, x) => (i, a.eval x)) = ((ps.map (·.1)).zip us).toArray := by
      rw [← hf.evals hx]
      simp only [List.map_toArray, List.map_map]
      congr 1
      induction ps with
      | nil => rfl
      | cons p r ih => simp [List.zip_map']
    simp only [execOp]
    rw [hmap]
    simp [hbs w]
  · obtain ⟨h1, X, hj, h2⟩ := hq w.heap.size
    rw [hb] at hj
    refine ⟨_, .inr ⟨by simpa using hi, (w.heap.size, 0), rfl⟩, h1.symm, ?_⟩
    rw [h2 hb]
    have hb2 := hs.below.alloc hs.size (.cells cs e)
    refine hs.swap j hj (fun k hk => .inr ?_) ⟨hs.size, heap_alloc_new w _⟩ hb2 (fun k hk _ => ?_)
    · simp [It.key] at hk; omega
    · exact ((Below.refl w.heap.size w).alloc (Nat.le_refl _) _).block k hk
/-- A call that turns own memory. -/
theorem Stp.callo {f : FuncId} {xs : List Operand} {ats : Array TypeId} (he : Ent f) (hr : ∀ (b : Nat → Bool) (s : Lt), b i = false → (∀ j ∈ dps ⟨some d, .call ⟨.value (.func f), xs.toArray, ats⟩, ty, pos, af, g⟩, b j = true) → ∃ (us : List Value) (v : Value) (H1 H2 : List It), (onB ops (envOf ops (fun j => nth vs j s) (dps ⟨some d, .call ⟨.value (.func f), xs.toArray, ats⟩, ty, pos, af, g⟩) ++ ρ) ⟨some d, .call ⟨.value (.func f), xs.toArray, ats⟩, ty, pos, af, g⟩ = some true) ∧
      evl (envOf ops (fun j => nth vs j s) (dps ⟨some d, .call ⟨.value (.func f), xs.toArray, ats⟩, ty, pos, af, g⟩) ++ ρ) xs = some us ∧ Hs b s = H1 ∧ (∀ w, St w0 H1 w → Calls Tryz.prog f us.toArray w (Mo w0 v H2)) ∧ v = nth vs i s ∧ Hs (up b i) s = H2) : Stp w0 n ops Q ρ vs Hs al i ⟨some d, .call ⟨.value (.func f), xs.toArray, ats⟩, ty, pos, af, g⟩ := fun b s hcl hb hd => by
  obtain ⟨us, v, H1, H2, hon, hx, h1, hc, hv, h2⟩ := hr b s hb hd
  subst h1
  refine OS.callG (cap := #[]) he rfl hon rfl hx fun w hs => ?_
  rw [Array.append_empty]
  refine (hc w hs).mono fun e w' h => ?_
  obtain ⟨rfl, hst⟩ := h
  exact ⟨v, rfl, s, .inl rfl, hv, by rw [h2]; exact hst⟩
/-- A slice literal whose elements stand in order. -/
theorem WL.row {e sz m : Nat} {z : Value} {ps : List (Nat × Operand)} {us : List Value} {cs : Array Value} (hu : Tryz.prog.underlying t = some (.slice e)) (hsz : Sized e sz) (hz : ∀ w : World, (zeroValue e).run Tryz.prog w = .ok z w) (hon : onB ops ρ ⟨some d, .buildSlice t m ps.toArray, ty, pos, af, g⟩ = some true) (hd : Nat.blt d n = true) (hx : evl ρ (ps.map (·.2)) = some us)
    (hlen : us.length = m) (his : ps.map (·.1) = List.range' 0 m) (hm : Nat.ble (m * sz) 1000 = true) (h0 : Nat.beq (m * sz) 0 = false) (h : us.all (fun v => Nat.beq v.cells.size sz) = true) (hcs : (flatC us).toArray = cs)
    (k : ∀ b, WL w0 n ops Q rest ((d, .slice (some ⟨b, 0, none⟩) m m) :: ρ) (.blk b e cs :: H)) : WL w0 n ops Q (⟨some d, .buildSlice t m ps.toArray, ty, pos, af, g⟩ :: rest) ρ H :=
  WL.buildSlice hon hd hx (fun w => run_rowL hu hsz hz hlen his hm h0 h hcs w) k
end
end Go.Proofs.YtlkkiimmangplaaGreatDoor
