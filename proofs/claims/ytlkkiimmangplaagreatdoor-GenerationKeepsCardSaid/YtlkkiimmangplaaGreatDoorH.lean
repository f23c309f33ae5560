/- The steps on memory, and calls. -/
import Derived.Test.YtlkkiimmangplaaGreatDoorG
namespace Go.Proofs.YtlkkiimmangplaaGreatDoor
open Go.RowKit
set_option linter.unusedVariables false
set_option linter.unusedSimpArgs false

abbrev NoAgg (t : TypeId) : Prop := ∀ w : World, (isAgg t).run Tryz.prog w = .ok false w
abbrev YesAgg (t : TypeId) : Prop := ∀ w : World, (isAgg t).run Tryz.prog w = .ok true w
abbrev Sized (t : TypeId) (sz : Nat) : Prop := ∀ w : World, (sizeOf t).run Tryz.prog w = .ok sz w

theorem add0 (g o j : Nat) : (⟨g, o, none⟩ : Addr).add j = ⟨g, o + j, none⟩ := by
  unfold Addr.add
  split
  · rename_i h; subst h; rfl
  · rfl

theorem cell_blk {w : World} {g o : Nat} {t : TypeId} {cs : Array Value} (h : w.heap[g]? = some (.cells cs t (0, 0))) : w.cell? ⟨g, o, none⟩ = cs[o]? := by
  simp [World.cell?, h]
theorem frozen_blk {w : World} {g o : Nat} {t : TypeId} {cs : Array Value} (h : w.heap[g]? = some (.cells cs t (0, 0))) : w.frozen? ⟨g, o, none⟩ = false := by
  simp [World.frozen?, h]

theorem run_loadAt_cell {t : TypeId} (hag : NoAgg t) {w : World} {ad : Addr} {v : Value} (hc : w.cell? ad = some v) :
    (Instr.loadAt t (.pointer (some ad))).run Tryz.prog w = .ok v w := by
  simp [Instr.loadAt, Instr.sureAddr, loadVar, Sem.run_bind, hag w, hc]

/-- A struct's cells in the midst of a block. -/
theorem run_loadAt_agg {t t' : TypeId} {sz : Nat} (hag : YesAgg t) (hsz : Sized t sz) {w : World} {g o : Nat} {cs vs : Array Value}
    (hg : w.heap[g]? = some (.cells cs t' (0, 0))) (hv : vs.size = sz) (hc : ∀ j, j < sz → cs[o + j]? = vs[j]?) : (Instr.loadAt t (.pointer (some ⟨g, o, none⟩))).run Tryz.prog w = .ok (.agg vs) w := by
  have hl : (loadCells ⟨g, o, none⟩ vs.toList.length).run Tryz.prog w = .ok vs.toList.toArray w :=
    run_loadCells_list (P := Tryz.prog) w ⟨g, o, none⟩ vs.toList (fun j v hv' => by
      rw [add0, cell_blk hg]
      have hj : j < sz := by
        rw [← hv]
        have := (List.getElem?_eq_some_iff.1 hv').1
        simpa using this
      rw [hc j hj]
      simpa using hv')
  simp only [Array.length_toList, Array.toArray_toList, hv] at hl
  simp [Instr.loadAt, Instr.sureAddr, loadVar, Sem.run_bind, hag w, hsz w, hl]

theorem run_storeAt_cell {t : TypeId} (hsz : Sized t 1) {w : World} {g o : Nat} {t' : TypeId} {cs : Array Value} {v : Value} (h1 : v.oneCell' = true) (hg : w.heap[g]? = some (.cells cs t' (0, 0))) (ho : Nat.blt o cs.size = true) :
    (Instr.storeAt t (.pointer (some ⟨g, o, none⟩)) v).run Tryz.prog w = .ok () (w.setCell ⟨g, o, none⟩ v) := by
  have ho' : o < cs.size := by simpa [Nat.blt, Nat.succ_le_iff] using ho
  have hcell : w.cell? ⟨g, o, none⟩ = some cs[o] := by rw [cell_blk hg]; simp [ho']
  have hfr : w.frozen? ⟨g, o, none⟩ = false := frozen_blk hg
  have hvc : v.cells = #[v] := by cases v <;> first | rfl | simp [Value.oneCell'] at h1
  have hst : (store ⟨g, o, none⟩ v).run Tryz.prog w = .ok () (w.setCell ⟨g, o, none⟩ v) := by
    cases v <;> first | (simp [Value.oneCell'] at h1; done) | simp [store, Sem.run, hcell, hfr]
  simp [Instr.storeAt, Instr.sureAddr, storeVar, Sem.run_bind, hvc, hsz w, storeCells, Addr.add, hst]

theorem heap_set {w : World} {g o : Nat} {t : TypeId} {cs : Array Value} {v : Value} (hg : w.heap[g]? = some (.cells cs t (0, 0))) : (w.setCell ⟨g, o, none⟩ v).heap[g]? = some (.cells (cs.setIfInBounds o v) t (0, 0)) :=
  heap_setCell_same w g o cs t v hg

def putAt (cs : Array Value) : Nat → List Value → Array Value
  | _, [] => cs
  | o, v :: r => putAt (cs.setIfInBounds o v) (o + 1) r
theorem putAt_size (cs : Array Value) (o : Nat) (vs : List Value) : (putAt cs o vs).size = cs.size := by
  induction vs generalizing cs o with
  | nil => rfl
  | cons v r ih => simp [putAt, ih]

/-- Several cells of one block. -/
theorem run_storeCells {g : Nat} {t' : TypeId} : ∀ (vs : List Value) (o i : Nat) (w : World) (cs : Array Value), (∀ v ∈ vs, v.oneCell' = true) → w.heap[g]? = some (.cells cs t' (0, 0)) → o + i + vs.length ≤ cs.size →
    ∃ w', (storeCells ⟨g, o, none⟩ vs i).run Tryz.prog w = .ok () w' ∧ w'.heap[g]? = some (.cells (putAt cs (o + i) vs) t' (0, 0)) ∧ w'.heap.size = w.heap.size ∧ (∀ k, k ≠ g → w'.heap[k]? = w.heap[k]?) ∧ w'.os = w.os ∧ w'.tape = w.tape ∧ w'.output = w.output
  | [], o, i, w, cs, _, hg, _ => ⟨w, by simp [storeCells], hg, rfl, fun _ _ => rfl, rfl, rfl, rfl⟩
  | v :: r, o, i, w, cs, h1, hg, hl => by
    have ho : o + i < cs.size := by simp at hl; omega
    have hcell : w.cell? ⟨g, o + i, none⟩ = some cs[o + i] := by rw [cell_blk hg]; simp [ho]
    have hfr : w.frozen? ⟨g, o + i, none⟩ = false := frozen_blk hg
    have hv : v.oneCell' = true := h1 v (by simp)
    have hst : (store ⟨g, o + i, none⟩ v).run Tryz.prog w = .ok () (w.setCell ⟨g, o + i, none⟩ v) := by
      cases v <;> first | (simp [Value.oneCell'] at hv; done) | simp [store, Sem.run, hcell, hfr]
    obtain ⟨w', h2, h3, h4, h5, h6, h7, h8⟩ := run_storeCells r o (i + 1) (w.setCell ⟨g, o + i, none⟩ v) (cs.setIfInBounds (o + i) v) (fun u hu => h1 u (by simp [hu])) (heap_set hg) (by simp at hl ⊢; omega)
    refine ⟨w', ?_, h3, by rw [h4]; simp [World.setCell], fun k hk => by rw [h5 k hk]; exact Below.heap_setCell _ _ _ _ hk, h6, h7, h8⟩
    simp [storeCells, add0, Sem.run_bind, hst, h2]

theorem run_storeAt_agg {t : TypeId} {sz : Nat} (hsz : Sized t sz) {w : World} {g o : Nat} {t' : TypeId} {cs vs : Array Value} (h1 : ∀ v ∈ vs.toList, v.oneCell' = true) (hv : vs.size = sz) (hg : w.heap[g]? = some (.cells cs t' (0, 0))) (ho : o + sz ≤ cs.size) :
    ∃ w', (Instr.storeAt t (.pointer (some ⟨g, o, none⟩)) (.agg vs)).run Tryz.prog w = .ok () w' ∧ w'.heap[g]? = some (.cells (putAt cs o vs.toList) t' (0, 0)) ∧ w'.heap.size = w.heap.size ∧ (∀ k, k ≠ g → w'.heap[k]? = w.heap[k]?) ∧ w'.os = w.os ∧ w'.tape = w.tape ∧ w'.output = w.output := by
  obtain ⟨w', h2, h3, h4⟩ := run_storeCells (g := g) (t' := t') vs.toList o 0 w cs h1 hg (by simp; omega)
  refine ⟨w', ?_, h3, h4⟩
  simp [Instr.storeAt, Instr.sureAddr, storeVar, Sem.run_bind, Value.cells, hsz w, hv, h2]

section
variable {w0 : World} {n : Nat} {ops : Array Oper} {Q : Exit → Act → World → Prop} {o : Oper} {rest : List Oper} {ρ : Env} {H : List It}
variable {d : Nat} {ty t t' : TypeId} {pos : String} {af : Array Edge} {g : Option (Nat × Bool)} {x y z : Operand} {v u : Value}

/-- The address of a field. -/
theorem P.fieldAddr {b off i fo : Nat} (hfa : ∀ (b off : Nat) (w : World), (Instr.fieldAt t (.pointer (some ⟨b, off, none⟩)) i).run Tryz.prog w = .ok (.pointer (some ⟨b, off + fo, none⟩)) w)
     (hx : ev ρ x = some (.pointer (some ⟨b, off, none⟩))) : Pure w0 n ρ H ⟨some d, .fieldAddr t x i, ty, pos, af, g⟩ (.pointer (some ⟨b, off + fo, none⟩)) :=
  fun a w hf _ => by simp [execOp, hf.eval hx, hfa b off w]
/-- A read of a cell of an own block (item number j). -/
theorem P.loadO (j : Nat) {b off : Nat} {cs : Array Value} (hag : NoAgg t)  (hx : ev ρ x = some (.pointer (some ⟨b, off, none⟩))) (hj : H[j]? = some (.blk b t' cs)) (hv : cs[off]? = some v)
    : Pure w0 n ρ H ⟨some d, .load t x, ty, pos, af, g⟩ (v) :=
  fun a w hf hs => by
    have hb := (hs.ok j _ hj).2
    simp [execOp, hf.eval hx, run_loadAt_cell hag ((cell_blk hb).trans hv)]
/-- A read of a struct in an own block. -/
theorem P.loadA (j : Nat) {b off sz : Nat} {cs vs : Array Value} (hag : YesAgg t) (hsz : Sized t sz)  (hx : ev ρ x = some (.pointer (some ⟨b, off, none⟩))) (hj : H[j]? = some (.blk b t' cs))
    (hv : vs.size = sz) (hc : ∀ j, j < sz → cs[off + j]? = vs[j]?) : Pure w0 n ρ H ⟨some d, .load t x, ty, pos, af, g⟩ (.agg vs) :=
  fun a w hf hs => by
    have hb := (hs.ok j _ hj).2
    simp [execOp, hf.eval hx, run_loadAt_agg hag hsz hb hv hc]
/-- The whole of an own block. -/
theorem P.loadW (j : Nat) {b sz : Nat} {cs : Array Value} (hag : YesAgg t) (hsz : Sized t sz) (hx : ev ρ x = some (.pointer (some ⟨b, 0, none⟩))) (hj : H[j]? = some (.blk b t' cs))
    (hv : cs.size = sz) : Pure w0 n ρ H ⟨some d, .load t x, ty, pos, af, g⟩ (.agg cs) :=
  P.loadA j hag hsz hx hj hv (fun i _ => by rw [Nat.zero_add])
/-- A read of a cell that was there when the call began. -/
theorem P.loadB {ad : Addr} (hag : NoAgg t)  (hx : ev ρ x = some (.pointer (some ad))) (hv : w0.cell? ad = some v)
    : Pure w0 n ρ H ⟨some d, .load t x, ty, pos, af, g⟩ (v) :=
  fun a w hf hs => by
    have hb := (hs.below.cell (World.block_lt_of_cell? w0 ad hv)).trans hv
    simp [execOp, hf.eval hx, run_loadAt_cell hag hb]
/-- A struct that was there when the call began. -/
theorem P.loadBA {b off sz : Nat} {vs : Array Value} (hag : YesAgg t) (hsz : Sized t sz)  (hx : ev ρ x = some (.pointer (some ⟨b, off, none⟩))) (hv : vs.size = sz)
    (hc : ∀ j v, vs[j]? = some v → w0.cell? ⟨b, off + j, none⟩ = some v) : Pure w0 n ρ H ⟨some d, .load t x, ty, pos, af, g⟩ (.agg vs) :=
  fun a w hf hs => by
    have hl : (loadCells ⟨b, off, none⟩ vs.toList.length).run Tryz.prog w = .ok vs.toList.toArray w :=
      run_loadCells_list (P := Tryz.prog) w ⟨b, off, none⟩ vs.toList (fun j v hv' => by
        rw [add0]
        have h1 := hc j v (by simpa using hv')
        exact (hs.below.cell (World.block_lt_of_cell? w0 _ h1)).trans h1)
    simp only [Array.length_toList, Array.toArray_toList, hv] at hl
    simp [execOp, hf.eval hx, Instr.loadAt, Instr.sureAddr, loadVar, Sem.run_bind, hag w, hsz w, hl]
/-- A store into a cell of an own block. -/
theorem WL.store (j : Nat) {b off : Nat} {cs : Array Value} (hsz : Sized t 1) (hon : onB ops ρ ⟨none, .store t x y, ty, pos, af, g⟩ = some true) (hx : ev ρ x = some (.pointer (some ⟨b, off, none⟩))) (hy : ev ρ y = some v) (h1 : v.oneCell' = true) (hj : H[j]? = some (.blk b t' cs))
    (ho : Nat.blt off cs.size = true) (k : WL w0 n ops Q rest ρ (H.set j (.blk b t' (cs.setIfInBounds off v)))) : WL w0 n ops Q (⟨none, .store t x y, ty, pos, af, g⟩ :: rest) ρ H :=
  WL.skip_ hon rfl (fun a w hf hs => by
    have hb := hs.ok j _ hj
    refine ⟨w.setCell ⟨b, off, none⟩ v, ?_, hs.swap j hj (fun k hk => .inl hk) ⟨hb.1, heap_set hb.2⟩ (hs.below.setCell (p := ⟨b, off, none⟩) hb.1 v) (fun k _ hk => Below.heap_setCell _ _ _ _ (fun e => hk (by rw [e]; rfl)))⟩
    simp [execOp, hf.eval hx, hf.eval hy, run_storeAt_cell hsz h1 hb.2 ho]) k
/-- A store of a struct. -/
theorem WL.storeA (j : Nat) {b off sz : Nat} {cs vs : Array Value} (hsz : Sized t sz) (hon : onB ops ρ ⟨none, .store t x y, ty, pos, af, g⟩ = some true) (hx : ev ρ x = some (.pointer (some ⟨b, off, none⟩))) (hy : ev ρ y = some (.agg vs)) (h1 : ∀ v ∈ vs.toList, v.oneCell' = true) (hv : vs.size = sz) (hj : H[j]? = some (.blk b t' cs))
    (ho : off + sz ≤ cs.size) (k : WL w0 n ops Q rest ρ (H.set j (.blk b t' (putAt cs off vs.toList)))) : WL w0 n ops Q (⟨none, .store t x y, ty, pos, af, g⟩ :: rest) ρ H :=
  WL.skip_ hon rfl (fun a w hf hs => by
    have hb := hs.ok j _ hj
    obtain ⟨w', h2, h3, h4, h5, h6, h7, h8⟩ := run_storeAt_agg hsz h1 hv hb.2 ho
    refine ⟨w', by simp [execOp, hf.eval hx, hf.eval hy, h2], hs.swap j hj (fun k hk => .inl hk) ⟨hb.1, h3⟩ ?_ (fun k _ hk => h5 k (fun e => hk (by rw [e]; rfl)))⟩
    refine hs.below.trans ⟨h6, h7, h8, by omega, fun k hk => h5 k (fun e => ?_)⟩
    have := hb.1
    omega) k

/-- A new variable. -/
theorem WL.box {t1 : TypeId} (hon : onB ops ρ ⟨some d, .box t1 x, ty, pos, af, g⟩ = some true) (hd : Nat.blt d n = true) (hx : ev ρ x = some v) (k : ∀ b, WL w0 n ops Q rest ((d, .pointer (some ⟨b, 0, none⟩)) :: ρ) (.blk b t1 v.cells :: H)) :
    WL w0 n ops Q (⟨some d, .box t1 x, ty, pos, af, g⟩ :: rest) ρ H :=
  WL.valx (S := fun _ => True) (v := fun b => .pointer (some ⟨b, 0, none⟩)) (H' := fun b => .blk b t1 v.cells :: H) hon rfl hd (fun a w hf hs => ⟨w.heap.size, _, trivial, by simp [execOp, hf.eval hx, Instr.box, newVar, newRow], hs.alloc t1 v.cells⟩) (fun b _ => k b)
theorem WL.alloc {t1 : TypeId} (hz : ∀ w : World, (zeroValue t1).run Tryz.prog w = .ok v w) (hon : onB ops ρ ⟨some d, .alloc t1, ty, pos, af, g⟩ = some true) (hd : Nat.blt d n = true) (k : ∀ b, WL w0 n ops Q rest ((d, .pointer (some ⟨b, 0, none⟩)) :: ρ) (.blk b t1 v.cells :: H)) :
    WL w0 n ops Q (⟨some d, .alloc t1, ty, pos, af, g⟩ :: rest) ρ H :=
  WL.valx (S := fun _ => True) (v := fun b => .pointer (some ⟨b, 0, none⟩)) (H' := fun b => .blk b t1 v.cells :: H) hon rfl hd (fun a w hf hs => ⟨w.heap.size, _, trivial, by simp [execOp, Instr.alloc, hz w, newVar, newRow], hs.alloc t1 v.cells⟩) (fun b _ => k b)

def evl (ρ : Env) : List Operand → Option (List Value)
  | [] => some []
  | x :: r => match ev ρ x, evl ρ r with
    | some v, some vs => some (v :: vs)
    | _, _ => none
theorem Fits.evals {ρ : Env} {a : Act} (h : Fits n ρ a) : ∀ {xs : List Operand} {vs : List Value}, evl ρ xs = some vs → xs.map a.eval = vs
  | [], vs, hv => by simp [evl] at hv; simp [hv]
  | x :: r, vs, hv => by
    unfold evl at hv
    cases hx : ev ρ x with
    | none => rw [hx] at hv; simp at hv
    | some v =>
      cases hr : evl ρ r with
      | none => rw [hx, hr] at hv; simp at hv
      | some us =>
        rw [hx, hr] at hv
        simp at hv
        subst hv
        simp [h.eval hx, Fits.evals h hr]

/-- A slice literal: its cells by a closed fact. -/
theorem WL.buildSlice {e : TypeId} {m : Nat} {ps : List (Nat × Operand)} {vs : List Value} {cs : Array Value} (hon : onB ops ρ ⟨some d, .buildSlice t m ps.toArray, ty, pos, af, g⟩ = some true) (hd : Nat.blt d n = true) (hx : evl ρ (ps.map (·.2)) = some vs)
    (hb : ∀ w : World, (Instr.buildSlice t m ((ps.map (·.1)).zip vs).toArray).run Tryz.prog w = .ok (.slice (some ⟨w.heap.size, 0, none⟩) m m) (w.alloc (.cells cs e)))
    (k : ∀ b, WL w0 n ops Q rest ((d, .slice (some ⟨b, 0, none⟩) m m) :: ρ) (.blk b e cs :: H)) : WL w0 n ops Q (⟨some d, .buildSlice t m ps.toArray, ty, pos, af, g⟩ :: rest) ρ H :=
  WL.valx (S := fun _ => True) (v := fun b => .slice (some ⟨b, 0, none⟩) m m) (H' := fun b => .blk b e cs :: H) hon rfl hd (fun a w hf hs => ⟨w.heap.size, _, trivial, by
    have hmap : (ps.toArray.map fun (i, x) => (i, a.eval x)) = ((ps.map (·.1)).zip vs).toArray := by
      rw [← hf.evals hx]
      simp only [List.map_toArray, List.map_map]
      congr 1
      induction ps with
      | nil => rfl
      | cons p r ih => simp [List.zip_map']
    simp only [execOp]
    rw [hmap]
    simp [hb w], hs.alloc e cs⟩) (fun b _ => k b)

/-- A struct literal: by a closed fact. -/
theorem P.build {ps : List (Nat × Operand)} {vs : List Value}  (hx : evl ρ (ps.map (·.2)) = some vs)
    (hb : ∀ w : World, (Instr.build t ((ps.map (·.1)).zip vs).toArray).run Tryz.prog w = .ok v w)
    : Pure w0 n ρ H ⟨some d, .build t ps.toArray, ty, pos, af, g⟩ (v) :=
  fun a w hf hs => by
    have hmap : (ps.toArray.map fun (i, x) => (i, a.eval x)) = ((ps.map (·.1)).zip vs).toArray := by
      rw [← hf.evals hx]
      simp only [List.map_toArray, List.map_map]
      congr 1
      induction ps with
      | nil => rfl
      | cons p r ih => simp [List.zip_map']
    simp only [execOp]
    rw [hmap]
    simp [hb w]
/-- The address of an element of a slice. -/
theorem P.elemAddr {e b off m c sz : Nat} {i : Int} (hu : Tryz.prog.underlying t = some (.slice e)) (hsz : Sized e sz)  (hx : ev ρ x = some (.slice (some ⟨b, off, none⟩) m c)) (hy : ev ρ y = some (.int .i64 i))
    (h0 : 0 ≤ i) (h1 : i < m) : Pure w0 n ρ H ⟨some d, .indexAddr t x y, ty, pos, af, g⟩ (.pointer (some ⟨b, off + i.toNat * sz, none⟩)) :=
  fun a w hf hs => by
    simp [execOp, hf.eval hx, hf.eval hy, Instr.indexAt, asIntOf, underlying, hu, h0, h1, hsz w, add0]
/-- A byte of a string. -/
theorem P.byte {s : ByteArray} {i : Int} (hu : Tryz.prog.underlying t = some .string)  (hx : ev ρ x = some (.string s)) (hy : ev ρ y = some (.int .i64 i))
    (h0 : 0 ≤ i) (h1 : i < s.size) : Pure w0 n ρ H ⟨some d, .index t x y, ty, pos, af, g⟩ (.int .u8 ((s.data.toList[i.toNat]?.getD 0).toNat : Int)) :=
  fun a w hf hs => by
    have h2 : i.toNat < s.size := by omega
    have h3 : s[i.toNat]? = some (s[i.toNat]'h2) := by simp [h2]
    have h4 : s.data.toList[i.toNat]?.getD 0 = s[i.toNat]'h2 := by
      have : i.toNat < s.data.toList.length := by simpa using h2
      rw [List.getElem?_eq_getElem this]
      simp [Array.getElem_toList]
      rfl
    rw [h4]
    simp [execOp, hf.eval hx, hf.eval hy, Instr.index, asIntOf, underlying, hu, h0, h3]
end
end Go.Proofs.YtlkkiimmangplaaGreatDoor
