/- Struct and slice literals. -/
import Derived.Test.YtlkkiimmangplaaGreatDoorS
import Derived.Test.YtlkkiimmangplaaGreatDoorN
namespace Go.Proofs.YtlkkiimmangplaaGreatDoor
set_option maxRecDepth 20000
set_option linter.unusedSimpArgs false
theorem bd_24 {zs : Array Value} (hz : ∀ w : World, (zeroValue 24).run Tryz.prog w = .ok (.agg zs) w) {ps : Array (Nat × Value)} {cs : Array Value} (h : Instr.fill (fun i => ([(0, 1), (1, 1), (2, 1)] : List (Nat × Nat))[i]?) zs ps.toList = some cs) (w : World) : (Instr.build 24 ps).run Tryz.prog w = .ok (.agg cs) w := by
  simp [Instr.build, hz w, Value.cells, underlying, Tryz.underlying24, Tryz.sizeOf3, Tryz.sizeOf9, Tryz.sizeOf22, h]
theorem bd_31 {zs : Array Value} (hz : ∀ w : World, (zeroValue 31).run Tryz.prog w = .ok (.agg zs) w) {ps : Array (Nat × Value)} {cs : Array Value} (h : Instr.fill (fun i => ([(0, 1), (1, 1), (2, 1), (3, 1), (4, 1), (5, 1), (6, 1), (7, 1), (8, 1), (9, 1), (10, 1), (11, 1), (12, 1), (13, 1), (14, 1), (15, 1), (16, 1), (17, 1), (18, 1), (19, 1), (20, 1)] : List (Nat × Nat))[i]?) zs ps.toList = some cs) (w : World) : (Instr.build 31 ps).run Tryz.prog w = .ok (.agg cs) w := by
  simp [Instr.build, hz w, Value.cells, underlying, Tryz.underlying31, Tryz.sizeOf3, Tryz.sizeOf4, Tryz.sizeOf9, h]
theorem bd_34 {zs : Array Value} (hz : ∀ w : World, (zeroValue 34).run Tryz.prog w = .ok (.agg zs) w) {ps : Array (Nat × Value)} {cs : Array Value} (h : Instr.fill (fun i => ([(0, 1), (1, 1), (2, 21), (23, 1), (24, 1), (25, 1), (26, 1), (27, 1), (28, 1), (29, 1), (30, 1), (31, 1), (32, 1)] : List (Nat × Nat))[i]?) zs ps.toList = some cs) (w : World) : (Instr.build 34 ps).run Tryz.prog w = .ok (.agg cs) w := by
  simp [Instr.build, hz w, Value.cells, underlying, Tryz.underlying34, Tryz.sizeOf3, Tryz.sizeOf4, Tryz.sizeOf9, Tryz.sizeOf22, Tryz.sizeOf31, Tryz.sizeOf32, h]
theorem bd_51 {zs : Array Value} (hz : ∀ w : World, (zeroValue 51).run Tryz.prog w = .ok (.agg zs) w) {ps : Array (Nat × Value)} {cs : Array Value} (h : Instr.fill (fun i => ([(0, 1), (1, 1), (2, 1)] : List (Nat × Nat))[i]?) zs ps.toList = some cs) (w : World) : (Instr.build 51 ps).run Tryz.prog w = .ok (.agg cs) w := by
  simp [Instr.build, hz w, Value.cells, underlying, Tryz.underlying51, Tryz.sizeOf3, Tryz.sizeOf4, Tryz.sizeOf9, h]
theorem bd_77 {zs : Array Value} (hz : ∀ w : World, (zeroValue 77).run Tryz.prog w = .ok (.agg zs) w) {ps : Array (Nat × Value)} {cs : Array Value} (h : Instr.fill (fun i => ([(0, 1), (1, 1), (2, 1), (3, 1), (4, 1), (5, 1), (6, 1), (7, 1), (8, 1), (9, 21), (30, 1), (31, 1), (32, 1), (33, 1), (34, 1)] : List (Nat × Nat))[i]?) zs ps.toList = some cs) (w : World) : (Instr.build 77 ps).run Tryz.prog w = .ok (.agg cs) w := by
  simp [Instr.build, hz w, Value.cells, underlying, Tryz.underlying77, Tryz.sizeOf3, Tryz.sizeOf4, Tryz.sizeOf9, Tryz.sizeOf31, Tryz.sizeOf48, h]
theorem bd_87 {zs : Array Value} (hz : ∀ w : World, (zeroValue 87).run Tryz.prog w = .ok (.agg zs) w) {ps : Array (Nat × Value)} {cs : Array Value} (h : Instr.fill (fun i => ([(0, 1), (1, 1), (2, 1), (3, 1)] : List (Nat × Nat))[i]?) zs ps.toList = some cs) (w : World) : (Instr.build 87 ps).run Tryz.prog w = .ok (.agg cs) w := by
  simp [Instr.build, hz w, Value.cells, underlying, Tryz.underlying87, Tryz.sizeOf3, Tryz.sizeOf26, Tryz.sizeOf80, h]
theorem bd_95 {zs : Array Value} (hz : ∀ w : World, (zeroValue 95).run Tryz.prog w = .ok (.agg zs) w) {ps : Array (Nat × Value)} {cs : Array Value} (h : Instr.fill (fun i => ([(0, 1), (1, 1), (2, 1)] : List (Nat × Nat))[i]?) zs ps.toList = some cs) (w : World) : (Instr.build 95 ps).run Tryz.prog w = .ok (.agg cs) w := by
  simp [Instr.build, hz w, Value.cells, underlying, Tryz.underlying95, Tryz.sizeOf3, Tryz.sizeOf9, h]
theorem bd_128 {zs : Array Value} (hz : ∀ w : World, (zeroValue 128).run Tryz.prog w = .ok (.agg zs) w) {ps : Array (Nat × Value)} {cs : Array Value} (h : Instr.fill (fun i => ([(0, 1), (1, 1), (2, 1), (3, 1)] : List (Nat × Nat))[i]?) zs ps.toList = some cs) (w : World) : (Instr.build 128 ps).run Tryz.prog w = .ok (.agg cs) w := by
  simp [Instr.build, hz w, Value.cells, underlying, Tryz.underlying128, Tryz.sizeOf5, Tryz.sizeOf58, Tryz.sizeOf67, Tryz.sizeOf126, h]
theorem bd_155 {zs : Array Value} (hz : ∀ w : World, (zeroValue 155).run Tryz.prog w = .ok (.agg zs) w) {ps : Array (Nat × Value)} {cs : Array Value} (h : Instr.fill (fun i => ([(0, 1), (1, 1)] : List (Nat × Nat))[i]?) zs ps.toList = some cs) (w : World) : (Instr.build 155 ps).run Tryz.prog w = .ok (.agg cs) w := by
  simp [Instr.build, hz w, Value.cells, underlying, Tryz.underlying155, Tryz.sizeOf9, Tryz.sizeOf152, h]
theorem bd_159 {zs : Array Value} (hz : ∀ w : World, (zeroValue 159).run Tryz.prog w = .ok (.agg zs) w) {ps : Array (Nat × Value)} {cs : Array Value} (h : Instr.fill (fun i => ([(0, 1), (1, 1)] : List (Nat × Nat))[i]?) zs ps.toList = some cs) (w : World) : (Instr.build 159 ps).run Tryz.prog w = .ok (.agg cs) w := by
  simp [Instr.build, hz w, Value.cells, underlying, Tryz.underlying159, Tryz.sizeOf9, Tryz.sizeOf26, h]
theorem bd_189 {zs : Array Value} (hz : ∀ w : World, (zeroValue 189).run Tryz.prog w = .ok (.agg zs) w) {ps : Array (Nat × Value)} {cs : Array Value} (h : Instr.fill (fun i => ([(0, 1), (1, 1), (2, 1)] : List (Nat × Nat))[i]?) zs ps.toList = some cs) (w : World) : (Instr.build 189 ps).run Tryz.prog w = .ok (.agg cs) w := by
  simp [Instr.build, hz w, Value.cells, underlying, Tryz.underlying189, Tryz.sizeOf3, Tryz.sizeOf9, h]
theorem bd_191 {zs : Array Value} (hz : ∀ w : World, (zeroValue 191).run Tryz.prog w = .ok (.agg zs) w) {ps : Array (Nat × Value)} {cs : Array Value} (h : Instr.fill (fun i => ([(0, 1), (1, 1), (2, 1), (3, 1)] : List (Nat × Nat))[i]?) zs ps.toList = some cs) (w : World) : (Instr.build 191 ps).run Tryz.prog w = .ok (.agg cs) w := by
  simp [Instr.build, hz w, Value.cells, underlying, Tryz.underlying191, Tryz.sizeOf3, Tryz.sizeOf9, h]
theorem bd_198 {zs : Array Value} (hz : ∀ w : World, (zeroValue 198).run Tryz.prog w = .ok (.agg zs) w) {ps : Array (Nat × Value)} {cs : Array Value} (h : Instr.fill (fun i => ([(0, 33), (33, 1)] : List (Nat × Nat))[i]?) zs ps.toList = some cs) (w : World) : (Instr.build 198 ps).run Tryz.prog w = .ok (.agg cs) w := by
  simp [Instr.build, hz w, Value.cells, underlying, Tryz.underlying198, Tryz.sizeOf3, Tryz.sizeOf34, h]
theorem bd_209 {zs : Array Value} (hz : ∀ w : World, (zeroValue 209).run Tryz.prog w = .ok (.agg zs) w) {ps : Array (Nat × Value)} {cs : Array Value} (h : Instr.fill (fun i => ([(0, 33), (33, 1)] : List (Nat × Nat))[i]?) zs ps.toList = some cs) (w : World) : (Instr.build 209 ps).run Tryz.prog w = .ok (.agg cs) w := by
  simp [Instr.build, hz w, Value.cells, underlying, Tryz.underlying209, Tryz.sizeOf3, Tryz.sizeOf34, h]
theorem bd_213 {zs : Array Value} (hz : ∀ w : World, (zeroValue 213).run Tryz.prog w = .ok (.agg zs) w) {ps : Array (Nat × Value)} {cs : Array Value} (h : Instr.fill (fun i => ([(0, 1), (1, 1)] : List (Nat × Nat))[i]?) zs ps.toList = some cs) (w : World) : (Instr.build 213 ps).run Tryz.prog w = .ok (.agg cs) w := by
  simp [Instr.build, hz w, Value.cells, underlying, Tryz.underlying213, Tryz.sizeOf3, Tryz.sizeOf9, h]
theorem bd_244 {zs : Array Value} (hz : ∀ w : World, (zeroValue 244).run Tryz.prog w = .ok (.agg zs) w) {ps : Array (Nat × Value)} {cs : Array Value} (h : Instr.fill (fun i => ([(0, 1), (1, 1)] : List (Nat × Nat))[i]?) zs ps.toList = some cs) (w : World) : (Instr.build 244 ps).run Tryz.prog w = .ok (.agg cs) w := by
  simp [Instr.build, hz w, Value.cells, underlying, Tryz.underlying244, Tryz.sizeOf9, Tryz.sizeOf26, h]
theorem bd_281 {zs : Array Value} (hz : ∀ w : World, (zeroValue 281).run Tryz.prog w = .ok (.agg zs) w) {ps : Array (Nat × Value)} {cs : Array Value} (h : Instr.fill (fun i => ([(0, 1), (1, 1)] : List (Nat × Nat))[i]?) zs ps.toList = some cs) (w : World) : (Instr.build 281 ps).run Tryz.prog w = .ok (.agg cs) w := by
  simp [Instr.build, hz w, Value.cells, underlying, Tryz.underlying281, Tryz.sizeOf4, Tryz.sizeOf9, h]
open Go.RowKit in
theorem run_buildSlice {t e sz m : Nat} {z : Value} {ps : Array (Nat × Value)} {cs : Array Value} (hu : Tryz.prog.underlying t = some (.slice e)) (hsz : Sized e sz) (hz : ∀ w : World, (zeroValue e).run Tryz.prog w = .ok z w)
    (hm : Nat.ble (m * sz) 1000 = true) (h0 : Nat.beq (m * sz) 0 = false) (h : Instr.fill (fun i => some (i * sz, sz)) ((Array.range (m * sz)).map (z.cells[· % z.cells.size]!)) ps.toList = some cs) (w : World) : (Instr.buildSlice t m ps).run Tryz.prog w = .ok (.slice (some ⟨w.heap.size, 0, none⟩) m m) (w.alloc (.cells cs e)) := by
  have h1 : ¬ (m * sz > 16777216) := by
    have : m * sz ≤ 1000 := by simpa using hm
    omega
  have h2 : ¬ (m * sz = 0) := fun e => by rw [e] at h0; cases h0
  unfold Instr.buildSlice
  simp [underlying, hu, Sem.run_bind, hsz w, hz w]
  rw [if_neg (by omega), if_neg h2]
  simp only [h]
  simp [newRow]; try rfl
open Go.RowKit in
theorem run_buildSlice0 {t e sz : Nat} (hu : Tryz.prog.underlying t = some (.slice e)) (hsz : Sized e sz) (w : World) : (Instr.buildSlice t 0 #[]).run Tryz.prog w = .ok (.slice (some ⟨w.heap.size, 0, none⟩) 0 0) (w.alloc (.cells #[] e)) := by
  unfold Instr.buildSlice
  simp [underlying, hu, Sem.run_bind, hsz w, Instr.fill]
  simp [newRow]
  have e0 : ∀ a b : Array Value, a = b → w.alloc (.cells a e) = w.alloc (.cells b e) := fun a b h => by rw [h]
  exact e0 _ _ (Array.eq_empty_of_size_eq_zero (by simp))
/-- One-cell parts put in their places. -/
def setAll (pl : List (Nat × Nat)) : Array Value → List (Nat × Value) → Array Value
  | zs, [] => zs
  | zs, (i, v) :: r => setAll pl (zs.setIfInBounds ((pl[i]?).getD (0, 0)).1 v) r
def okAll (pl : List (Nat × Nat)) (m : Nat) (ps : List (Nat × Value)) : Bool := ps.all fun p => match pl[p.1]? with | some (o, 1) => p.2.oneCell' && Nat.blt o m | _ => false
theorem fill_one {pl : List (Nat × Nat)} : ∀ (ps : List (Nat × Value)) (zs : Array Value), okAll pl zs.size ps = true → Instr.fill (fun i => pl[i]?) zs ps = some (setAll pl zs ps)
  | [], zs, _ => rfl
  | (i, v) :: r, zs, h => by
    unfold okAll at h
    rw [List.all_cons, Bool.and_eq_true] at h
    obtain ⟨h1, h2⟩ := h
    cases hp : pl[i]? with
    | none => rw [hp] at h1; cases h1
    | some q =>
      obtain ⟨o, sz⟩ := q
      rw [hp] at h1
      cases sz with
      | zero => cases h1
      | succ k =>
        cases k with
        | succ k => cases h1
        | zero =>
          have h1 : v.oneCell' = true ∧ Nat.blt o zs.size = true := Bool.and_eq_true_iff.1 h1
          have hvc : v.cells = #[v] := by cases v <;> first | rfl | (simp [Value.oneCell'] at h1)
          have ho : o < zs.size := by simpa [Nat.blt, Nat.succ_le_iff] using h1.2
          unfold Instr.fill setAll
          have hsz : ¬ (o + 1 > zs.size) := by omega
          simp only [hp, hvc, Option.getD_some, Array.size, List.length_cons, List.length_nil]
          simp
          exact ⟨by omega, fill_one r _ (by simpa [okAll] using h2)⟩
theorem bo_24 {zs : Array Value} (hz : ∀ w : World, (zeroValue 24).run Tryz.prog w = .ok (.agg zs) w) {ps : List (Nat × Value)} {cs : Array Value} (h1 : okAll [(0, 1), (1, 1), (2, 1)] zs.size ps = true) (h2 : setAll [(0, 1), (1, 1), (2, 1)] zs ps = cs) (w : World) : (Instr.build 24 ps.toArray).run Tryz.prog w = .ok (.agg cs) w :=
  bd_24 hz (by rw [← h2]; exact fill_one ps zs h1) w
theorem bo_31 {zs : Array Value} (hz : ∀ w : World, (zeroValue 31).run Tryz.prog w = .ok (.agg zs) w) {ps : List (Nat × Value)} {cs : Array Value} (h1 : okAll [(0, 1), (1, 1), (2, 1), (3, 1), (4, 1), (5, 1), (6, 1), (7, 1), (8, 1), (9, 1), (10, 1), (11, 1), (12, 1), (13, 1), (14, 1), (15, 1), (16, 1), (17, 1), (18, 1), (19, 1), (20, 1)] zs.size ps = true) (h2 : setAll [(0, 1), (1, 1), (2, 1), (3, 1), (4, 1), (5, 1), (6, 1), (7, 1), (8, 1), (9, 1), (10, 1), (11, 1), (12, 1), (13, 1), (14, 1), (15, 1), (16, 1), (17, 1), (18, 1), (19, 1), (20, 1)] zs ps = cs) (w : World) : (Instr.build 31 ps.toArray).run Tryz.prog w = .ok (.agg cs) w :=
  bd_31 hz (by rw [← h2]; exact fill_one ps zs h1) w
theorem bo_34 {zs : Array Value} (hz : ∀ w : World, (zeroValue 34).run Tryz.prog w = .ok (.agg zs) w) {ps : List (Nat × Value)} {cs : Array Value} (h1 : okAll [(0, 1), (1, 1), (2, 21), (23, 1), (24, 1), (25, 1), (26, 1), (27, 1), (28, 1), (29, 1), (30, 1), (31, 1), (32, 1)] zs.size ps = true) (h2 : setAll [(0, 1), (1, 1), (2, 21), (23, 1), (24, 1), (25, 1), (26, 1), (27, 1), (28, 1), (29, 1), (30, 1), (31, 1), (32, 1)] zs ps = cs) (w : World) : (Instr.build 34 ps.toArray).run Tryz.prog w = .ok (.agg cs) w :=
  bd_34 hz (by rw [← h2]; exact fill_one ps zs h1) w
theorem bo_51 {zs : Array Value} (hz : ∀ w : World, (zeroValue 51).run Tryz.prog w = .ok (.agg zs) w) {ps : List (Nat × Value)} {cs : Array Value} (h1 : okAll [(0, 1), (1, 1), (2, 1)] zs.size ps = true) (h2 : setAll [(0, 1), (1, 1), (2, 1)] zs ps = cs) (w : World) : (Instr.build 51 ps.toArray).run Tryz.prog w = .ok (.agg cs) w :=
  bd_51 hz (by rw [← h2]; exact fill_one ps zs h1) w
theorem bo_77 {zs : Array Value} (hz : ∀ w : World, (zeroValue 77).run Tryz.prog w = .ok (.agg zs) w) {ps : List (Nat × Value)} {cs : Array Value} (h1 : okAll [(0, 1), (1, 1), (2, 1), (3, 1), (4, 1), (5, 1), (6, 1), (7, 1), (8, 1), (9, 21), (30, 1), (31, 1), (32, 1), (33, 1), (34, 1)] zs.size ps = true) (h2 : setAll [(0, 1), (1, 1), (2, 1), (3, 1), (4, 1), (5, 1), (6, 1), (7, 1), (8, 1), (9, 21), (30, 1), (31, 1), (32, 1), (33, 1), (34, 1)] zs ps = cs) (w : World) : (Instr.build 77 ps.toArray).run Tryz.prog w = .ok (.agg cs) w :=
  bd_77 hz (by rw [← h2]; exact fill_one ps zs h1) w
theorem bo_87 {zs : Array Value} (hz : ∀ w : World, (zeroValue 87).run Tryz.prog w = .ok (.agg zs) w) {ps : List (Nat × Value)} {cs : Array Value} (h1 : okAll [(0, 1), (1, 1), (2, 1), (3, 1)] zs.size ps = true) (h2 : setAll [(0, 1), (1, 1), (2, 1), (3, 1)] zs ps = cs) (w : World) : (Instr.build 87 ps.toArray).run Tryz.prog w = .ok (.agg cs) w :=
  bd_87 hz (by rw [← h2]; exact fill_one ps zs h1) w
theorem bo_95 {zs : Array Value} (hz : ∀ w : World, (zeroValue 95).run Tryz.prog w = .ok (.agg zs) w) {ps : List (Nat × Value)} {cs : Array Value} (h1 : okAll [(0, 1), (1, 1), (2, 1)] zs.size ps = true) (h2 : setAll [(0, 1), (1, 1), (2, 1)] zs ps = cs) (w : World) : (Instr.build 95 ps.toArray).run Tryz.prog w = .ok (.agg cs) w :=
  bd_95 hz (by rw [← h2]; exact fill_one ps zs h1) w
theorem bo_128 {zs : Array Value} (hz : ∀ w : World, (zeroValue 128).run Tryz.prog w = .ok (.agg zs) w) {ps : List (Nat × Value)} {cs : Array Value} (h1 : okAll [(0, 1), (1, 1), (2, 1), (3, 1)] zs.size ps = true) (h2 : setAll [(0, 1), (1, 1), (2, 1), (3, 1)] zs ps = cs) (w : World) : (Instr.build 128 ps.toArray).run Tryz.prog w = .ok (.agg cs) w :=
  bd_128 hz (by rw [← h2]; exact fill_one ps zs h1) w
theorem bo_155 {zs : Array Value} (hz : ∀ w : World, (zeroValue 155).run Tryz.prog w = .ok (.agg zs) w) {ps : List (Nat × Value)} {cs : Array Value} (h1 : okAll [(0, 1), (1, 1)] zs.size ps = true) (h2 : setAll [(0, 1), (1, 1)] zs ps = cs) (w : World) : (Instr.build 155 ps.toArray).run Tryz.prog w = .ok (.agg cs) w :=
  bd_155 hz (by rw [← h2]; exact fill_one ps zs h1) w
theorem bo_159 {zs : Array Value} (hz : ∀ w : World, (zeroValue 159).run Tryz.prog w = .ok (.agg zs) w) {ps : List (Nat × Value)} {cs : Array Value} (h1 : okAll [(0, 1), (1, 1)] zs.size ps = true) (h2 : setAll [(0, 1), (1, 1)] zs ps = cs) (w : World) : (Instr.build 159 ps.toArray).run Tryz.prog w = .ok (.agg cs) w :=
  bd_159 hz (by rw [← h2]; exact fill_one ps zs h1) w
theorem bo_189 {zs : Array Value} (hz : ∀ w : World, (zeroValue 189).run Tryz.prog w = .ok (.agg zs) w) {ps : List (Nat × Value)} {cs : Array Value} (h1 : okAll [(0, 1), (1, 1), (2, 1)] zs.size ps = true) (h2 : setAll [(0, 1), (1, 1), (2, 1)] zs ps = cs) (w : World) : (Instr.build 189 ps.toArray).run Tryz.prog w = .ok (.agg cs) w :=
  bd_189 hz (by rw [← h2]; exact fill_one ps zs h1) w
theorem bo_191 {zs : Array Value} (hz : ∀ w : World, (zeroValue 191).run Tryz.prog w = .ok (.agg zs) w) {ps : List (Nat × Value)} {cs : Array Value} (h1 : okAll [(0, 1), (1, 1), (2, 1), (3, 1)] zs.size ps = true) (h2 : setAll [(0, 1), (1, 1), (2, 1), (3, 1)] zs ps = cs) (w : World) : (Instr.build 191 ps.toArray).run Tryz.prog w = .ok (.agg cs) w :=
  bd_191 hz (by rw [← h2]; exact fill_one ps zs h1) w
theorem bo_198 {zs : Array Value} (hz : ∀ w : World, (zeroValue 198).run Tryz.prog w = .ok (.agg zs) w) {ps : List (Nat × Value)} {cs : Array Value} (h1 : okAll [(0, 33), (33, 1)] zs.size ps = true) (h2 : setAll [(0, 33), (33, 1)] zs ps = cs) (w : World) : (Instr.build 198 ps.toArray).run Tryz.prog w = .ok (.agg cs) w :=
  bd_198 hz (by rw [← h2]; exact fill_one ps zs h1) w
theorem bo_209 {zs : Array Value} (hz : ∀ w : World, (zeroValue 209).run Tryz.prog w = .ok (.agg zs) w) {ps : List (Nat × Value)} {cs : Array Value} (h1 : okAll [(0, 33), (33, 1)] zs.size ps = true) (h2 : setAll [(0, 33), (33, 1)] zs ps = cs) (w : World) : (Instr.build 209 ps.toArray).run Tryz.prog w = .ok (.agg cs) w :=
  bd_209 hz (by rw [← h2]; exact fill_one ps zs h1) w
theorem bo_213 {zs : Array Value} (hz : ∀ w : World, (zeroValue 213).run Tryz.prog w = .ok (.agg zs) w) {ps : List (Nat × Value)} {cs : Array Value} (h1 : okAll [(0, 1), (1, 1)] zs.size ps = true) (h2 : setAll [(0, 1), (1, 1)] zs ps = cs) (w : World) : (Instr.build 213 ps.toArray).run Tryz.prog w = .ok (.agg cs) w :=
  bd_213 hz (by rw [← h2]; exact fill_one ps zs h1) w
theorem bo_244 {zs : Array Value} (hz : ∀ w : World, (zeroValue 244).run Tryz.prog w = .ok (.agg zs) w) {ps : List (Nat × Value)} {cs : Array Value} (h1 : okAll [(0, 1), (1, 1)] zs.size ps = true) (h2 : setAll [(0, 1), (1, 1)] zs ps = cs) (w : World) : (Instr.build 244 ps.toArray).run Tryz.prog w = .ok (.agg cs) w :=
  bd_244 hz (by rw [← h2]; exact fill_one ps zs h1) w
theorem bo_281 {zs : Array Value} (hz : ∀ w : World, (zeroValue 281).run Tryz.prog w = .ok (.agg zs) w) {ps : List (Nat × Value)} {cs : Array Value} (h1 : okAll [(0, 1), (1, 1)] zs.size ps = true) (h2 : setAll [(0, 1), (1, 1)] zs ps = cs) (w : World) : (Instr.build 281 ps.toArray).run Tryz.prog w = .ok (.agg cs) w :=
  bd_281 hz (by rw [← h2]; exact fill_one ps zs h1) w
end Go.Proofs.YtlkkiimmangplaaGreatDoor
