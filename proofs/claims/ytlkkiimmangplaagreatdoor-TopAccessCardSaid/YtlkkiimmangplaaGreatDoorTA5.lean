/- Parts: P49, P50, P51, P52, V13, L7, P53, P54, P55, V14, P56, V15, P57, X6, X5, J0. -/
import Derived.Test.YtlkkiimmangplaaGreatDoorTA4
import Derived.Laws.Cover3
import Derived.Test.YtlkkiimmangplaaGreatDoorRows
import Derived.Lib.LaidTab
import Derived.MakeChecks
import Derived.JoinedOf
import Derived.KernelRfl
import Derived.SevenTiedAt
/- The table of matching. -/
namespace Go.Proofs.YtlkkiimmangplaaGreatDoor
open Go.RowKit
set_option linter.unusedVariables false
set_option linter.unusedSimpArgs false

theorem WL.eqH {w0 : World} {n : Nat} {ops : Array Oper} {Q : Exit → Act → World → Prop} {l : List Oper} {ρ : Env} {H : List It} (H' : List It) (h : H = H') (k : WL w0 n ops Q l ρ H') : WL w0 n ops Q l ρ H := h ▸ k
/-- A table of 40 by 40 truth values. -/
def tb (g : Nat → Bool) : Array Value := ((List.range 1600).map (fun m => Value.bool (g m))).toArray
theorem tb_size (g : Nat → Bool) : (tb g).size = 1600 := by simp [tb]
theorem tb_at {g : Nat → Bool} {o m : Nat} (h : o = m) (hm : m < 1600) : (tb g)[o]? = some (.bool (g m)) := by
  subst h
  simp [tb, hm]
def updB (g : Nat → Bool) (m : Nat) (v : Bool) : Nat → Bool := fun x => if x = m then v else g x
theorem tb_set {g : Nat → Bool} {o m : Nat} {v : Bool} (h : o = m) : (tb g).setIfInBounds o (.bool v) = tb (updB g m v) := by
  subst h
  apply Array.ext_getElem?
  intro k
  rw [Array.getElem?_setIfInBounds]
  by_cases hk : k < 1600
  · by_cases he : o = k
    · subst he
      rw [if_pos rfl, if_pos (by rw [tb_size]; exact hk), tb_at rfl hk]
      simp [updB]
    · rw [if_neg he, tb_at rfl hk, tb_at rfl hk]
      simp [updB, Ne.symm he]
  · have h1 : ∀ g, (tb g)[k]? = none := fun g => Array.getElem?_eq_none (by rw [tb_size]; omega)
    rw [h1, h1]
    split
    · rw [if_neg (by rw [tb_size]; omega)]
    · rfl
theorem blt_of {o m : Nat} (h : o < m) : Nat.blt o m = true := by simpa [Nat.blt, Nat.succ_le_iff] using h
theorem zero220 : Tryz.zeroCells220 = tb (fun _ => false) := by kernel_rfl
/-- A function value that answers like p at numbers below a bound. -/
structure PredT (w : World) (g : Nat) (cap : Array Value) (m : Nat) (p : Nat → Bool) : Prop where
  ent : Ent g
  at_ : ∀ (i : Int) (w' : World), Below w.heap.size w w' → 0 ≤ i → i < m → Calls Tryz.prog g (#[.int .i64 i] ++ cap) w' (RetV w' (.bool (p i.toNat)))
structure PredT2 (w : World) (g : Nat) (cap : Array Value) (m n : Nat) (p : Nat → Nat → Bool) : Prop where
  ent : Ent g
  at_ : ∀ (i k : Int) (w' : World), Below w.heap.size w w' → 0 ≤ i → i < m → 0 ≤ k → k < n → Calls Tryz.prog g (#[.int .i64 i, .int .i64 k] ++ cap) w' (RetV w' (.bool (p i.toNat k.toNat)))
/-- The rows from q on are done, and row q - 1 from column k on. -/
structure TabI (parts n : Nat) (star : Nat → Bool) (one : Nat → Nat → Bool) (q k : Nat) (g : Nat → Bool) : Prop where
  lo : 1 ≤ q
  hi : q ≤ parts
  kl : k ≤ n + 1
  done : ∀ i j, q ≤ i → i ≤ parts → j ≤ n → g (40 * i + j) = tabP n star one (parts - i) i j
  row : ∀ j, k ≤ j → j ≤ n → g (40 * (q - 1) + j) = tabP n star one (parts - (q - 1)) (q - 1) j
def TabR (parts n : Nat) (star : Nat → Bool) (one : Nat → Nat → Bool) (q : Nat) (g : Nat → Bool) : Prop := q ≤ parts ∧ ∀ i j, q ≤ i → i ≤ parts → j ≤ n → g (40 * i + j) = tabP n star one (parts - i) i j
section
variable {parts n : Nat} {star : Nat → Bool} {one : Nat → Nat → Bool} {q k : Nat} {g : Nat → Bool}
theorem TabI.step (hn : n < 40) {v : Bool} (h : TabI parts n star one q (k + 1) g) (hv : v = tabP n star one (parts - (q - 1)) (q - 1) k) : TabI parts n star one q k (updB g (40 * (q - 1) + k) v) := by
  have h1 := h.lo
  have h2 := h.hi
  have h3 := h.kl
  refine ⟨h1, h2, by omega, fun i j hi hip hj => ?_, fun j hj hjn => ?_⟩
  · unfold updB
    rw [if_neg (by omega), h.done i j hi hip hj]
  · unfold updB
    by_cases e : j = k
    · subst e; rw [if_pos rfl, hv]
    · rw [if_neg (by omega), h.row j (by omega) hjn]
theorem TabI.up (h : TabI parts n star one q 0 g) : TabR parts n star one (q - 1) g := by
  have h1 := h.lo
  have h2 := h.hi
  refine ⟨by omega, fun i j hi hip hj => ?_⟩
  by_cases e : i = q - 1
  · subst e; exact h.row j (Nat.zero_le _) hj
  · exact h.done i j (by omega) hip hj
theorem TabR.down (h : TabR parts n star one q g) (hq : 1 ≤ q) : TabI parts n star one q (n + 1) g := ⟨hq, h.1, Nat.le_refl _, h.2, fun j hj hjn => by omega⟩
theorem TabR.init (parts : Nat) {n : Nat} (hn : n < 40) : TabR parts n star one parts (updB (fun _ => false) (40 * parts + n) true) := by
  refine ⟨Nat.le_refl _, fun i j hi hip hj => ?_⟩
  obtain rfl : i = parts := by omega
  rw [Nat.sub_self, tabP]
  unfold updB
  by_cases e : j = n
  · subst e; rw [if_pos rfl]; simp
  · rw [if_neg (by omega)]; simp [e]
theorem TabI.onStar (h : TabI parts n star one q (k + 1) g) (hs : star (q - 1) = true) : tabP n star one (parts - (q - 1)) (q - 1) k = (g (40 * q + k) || (decide (k < n) && g (40 * (q - 1) + (k + 1)))) := by
  have h1 := h.lo
  have h2 := h.hi
  have h3 := h.kl
  rw [show parts - (q - 1) = (parts - q) + 1 by omega, tabP_star hs (by omega), show q - 1 + 1 = q by omega, ← h.done q k (Nat.le_refl _) h2 (by omega)]
  by_cases hk : k < n
  · rw [h.row (k + 1) (Nat.le_refl _) (by omega), show parts - (q - 1) = (parts - q) + 1 by omega]
  · rw [decide_eq_false hk]; rfl
theorem TabI.onPlain (h : TabI parts n star one q (k + 1) g) (hs : star (q - 1) = false) : tabP n star one (parts - (q - 1)) (q - 1) k = (decide (k < n) && (g (40 * q + (k + 1)) && one (q - 1) k)) := by
  have h1 := h.lo
  have h2 := h.hi
  have h3 := h.kl
  rw [show parts - (q - 1) = (parts - q) + 1 by omega, tabP_plain hs, show q - 1 + 1 = q by omega]
  by_cases hk : k < n
  · rw [← h.done q (k + 1) (Nat.le_refl _) h2 (by omega)]
  · rw [decide_eq_false hk]; rfl
end

set_option maxRecDepth 100000 in
theorem table_any (parts n gs go : Nat) (cs1 cs2 : Array Value) (star : Nat → Bool) (one : Nat → Nat → Bool) (w : World) (hp : parts < 40) (hn : n < 40) (h1 : PredT w gs cs1 parts star) (h2 : PredT2 w go cs2 parts n one) :
    Calls Tryz.prog 108 #[.int .i64 (parts : Int), .int .i64 (n : Int), .func (.func gs) #[] cs1, .func (.func go) #[] cs2] w (RetV w (.bool (tblP parts n star one))) := by
  refine enter Tryz.func108 rfl Tryz.ntmps108 rfl ?_
  refine WC.seq ?_
  refine WC.region ?_
  refine WL.p rfl rfl rfl (P.assign rfl) ?_
  refine WL.nil_ ?_
  refine End.seq ?_
  refine WC.seq ?_
  refine WC.region ?_
  refine WL.alloc Tryz.zeroValue220 rfl rfl (fun b9 => ?_)
  refine WL.eqH [.blk b9 220 (tb fun _ => false)] (by show [It.blk b9 220 Tryz.zeroCells220] = _; rw [zero220]) ?_
  refine WL.nil_ ?_
  refine End.seq ?_
  refine WC.seq ?_
  refine WC.region ?_
  refine WL.p rfl rfl rfl (P.move rfl) ?_
  refine WL.p rfl rfl rfl (P.move rfl) ?_
  refine WL.p rfl rfl rfl (P.elemArr Tryz.underlying220 Tryz.sizeOf219 rfl rfl (by omega) (by omega)) ?_
  refine WL.p rfl rfl rfl (P.elemArr Tryz.underlying219 Tryz.sizeOf4 rfl rfl (by omega) (by omega)) ?_
  refine WL.store 0 Tryz.sizeOf4 rfl rfl rfl rfl rfl (by rw [tb_size]; exact blt_of (by omega)) ?_
  refine WL.eqH [.blk b9 220 (tb (updB (fun _ => false) (40 * parts + n) true))] (by show [It.blk b9 220 ((tb _).setIfInBounds _ (.bool true))] = _; rw [tb_set (m := 40 * parts + n) (by omega)]) ?_
  refine WL.nil_ ?_
  refine End.seq ?_
  refine WC.seq ?_
  refine WC.seq ?_
  refine WC.region ?_
  refine WL.p rfl rfl rfl (P.move rfl) ?_
  refine WL.p rfl rfl rfl (P.ari64 rfl rfl rfl (by omega)) ?_
  refine WL.p rfl rfl rfl (P.assign rfl) ?_
  refine WL.nil_ ?_
  refine End.seq ?_
  refine WC.block ?_
  refine WC.loopD (σ := Nat × (Nat → Bool)) (fun (q, g) => [(10, .int .i64 ((q : Int) - 1))]) (fun (q, g) => [.blk b9 220 (tb g)]) (fun (q, g) => TabR parts n star one q g) (fun (q, g) => q) (parts, updB (fun _ => false) (40 * parts + n) true) (TabR.init parts hn) (Env.sub_cons rfl (Env.sub_nil)) [0] rfl rfl ?_
  rintro ⟨q, g⟩ hR
  simp only at hR ⊢
  refine WC.seq ?_
  refine WC.seq ?_
  refine WC.region ?_
  refine WL.p rfl rfl rfl (P.move rfl) ?_
  refine WL.p rfl rfl rfl (P.cmp rfl rfl rfl) ?_
  refine WL.nil_ ?_
  refine End.seq ?_
  refine WC.cond rfl (fun hc19 => ?_) (fun hc19 => ?_)
  ·
    have hq1 : 1 ≤ q := by have := of_decide_eq_true hc19; omega
    have hqp := hR.1
    refine WC.skip ?_
    refine End.seq ?_
    refine WC.seq ?_
    refine WC.block ?_
    refine WC.seq ?_
    refine WC.region ?_
    refine WL.p rfl rfl rfl (P.move rfl) ?_
    refine WL.p rfl rfl rfl (P.assign rfl) ?_
    refine WL.nil_ ?_
    refine End.seq ?_
    refine WC.block ?_
    refine WC.loopD (σ := Nat × (Nat → Bool)) (fun (k, g) => [(11, .int .i64 ((k : Int) - 1))]) (fun (k, g) => [.blk b9 220 (tb g)]) (fun (k, g) => TabI parts n star one q k g) (fun (k, g) => k) (n + 1, g) (hR.down (by omega)) (Env.sub_cons (by show some (Value.int .i64 (n : Int)) = some (Value.int .i64 (((n + 1 : Nat) : Int) - 1)); congr 2; omega) Env.sub_nil) [0] rfl rfl ?_
    rintro ⟨k, g⟩ hI
    simp only at hI ⊢
    refine WC.seq ?_
    refine WC.seq ?_
    refine WC.region ?_
    refine WL.p rfl rfl rfl (P.move rfl) ?_
    refine WL.p rfl rfl rfl (P.cmp rfl rfl rfl) ?_
    refine WL.nil_ ?_
    refine End.seq ?_
    refine WC.cond rfl (fun hc24 => ?_) (fun hc24 => ?_)
    ·
      obtain ⟨k, rfl⟩ : ∃ k', k = k' + 1 := ⟨k - 1, by have := of_decide_eq_true hc24; omega⟩
      have hkl := hI.kl
      refine WC.skip ?_
      refine End.seq ?_
      refine WC.seq ?_
      refine WC.block ?_
      refine WC.seq ?_
      refine WC.region ?_
      refine WL.p rfl rfl rfl (P.move rfl) ?_
      refine WL.p rfl rfl rfl (P.move rfl) ?_
      refine WL.callc h1.ent rfl rfl rfl rfl (fun w hs => h1.at_ _ w hs.below (by omega) (by omega)) ?_
      refine WL.nil_ ?_
      refine End.seq ?_
      refine WC.cond rfl (fun hc29 => ?_) (fun hc29 => ?_)
      ·
        have hst : star (q - 1) = true := by rw [show q - 1 = ((q : Int) - 1).toNat by omega]; exact hc29
        refine WC.lastP rfl (by kernel_rfl) (by kernel_rfl) (by kernel_rfl) (by kernel_rfl) (by kernel_rfl) ?_
        refine WQ.p rfl rfl rfl (P.move rfl) ?_
        refine WQ.p rfl rfl rfl (P.move rfl) ?_
        refine WQ.p rfl rfl rfl (P.move rfl) ?_
        refine WQ.p rfl rfl rfl (P.ari64 rfl rfl rfl (by omega)) ?_
        refine WQ.p rfl rfl rfl (P.move rfl) ?_
        refine WQ.p rfl rfl rfl (P.elemArr Tryz.underlying220 Tryz.sizeOf219 rfl rfl (by omega) (by omega)) ?_
        refine WQ.p rfl rfl rfl (P.elemArr Tryz.underlying219 Tryz.sizeOf4 rfl rfl (by omega) (by omega)) ?_
        refine WQ.p rfl rfl rfl (P.loadO 0 Tryz.isAgg4 rfl rfl (tb_at (m := 40 * q + k) (by omega) (by omega))) ?_
        refine WQ.p rfl rfl rfl (P.move rfl) ?_
        refine WQ.split 38 rfl (fun hs38 => ?_) (fun hs38 => ?_)
        ·
          refine WQ.off rfl rfl ?_
          refine WQ.off rfl rfl ?_
          refine WQ.off rfl rfl ?_
          refine WQ.off rfl rfl ?_
          refine WQ.offU rfl rfl ?_
          refine WQ.offU rfl rfl ?_
          refine WQ.offU rfl rfl ?_
          refine WQ.offU rfl rfl ?_
          refine WQ.offU rfl rfl ?_
          refine WQ.offU rfl rfl ?_
          refine WQ.off rfl rfl ?_
          refine WQ.p rfl rfl rfl (P.pickT rfl rfl) ?_
          refine WQ.p rfl rfl rfl (P.elemArr Tryz.underlying220 Tryz.sizeOf219 rfl rfl (by omega) (by omega)) ?_
          refine WQ.p rfl rfl rfl (P.elemArr Tryz.underlying219 Tryz.sizeOf4 rfl rfl (by omega) (by omega)) ?_
          refine WQ.nil_ (End.lastly ?_)
          refine WL.store 0 Tryz.sizeOf4 rfl rfl rfl rfl rfl (by rw [tb_size]; exact blt_of (by omega)) ?_
          refine WL.nil_ ?_
          refine End.blkN ?_
          refine End.seq ?_
          refine WC.region ?_
          refine WL.p rfl rfl rfl (P.move rfl) ?_
          refine WL.p rfl rfl rfl (P.ari64 rfl rfl rfl (by omega)) ?_
          refine WL.p rfl rfl rfl (P.assign rfl) ?_
          refine WL.nil_ ?_
          refine End.againD (k, updB g (40 * (q - 1) + k) true) ?_ ?_ rfl (Env.sub_cons (by show some (Value.int .i64 (((k + 1 : Nat) : Int) - 1 - 1)) = some (Value.int .i64 ((k : Int) - 1)); congr 2; omega) Env.sub_nil) rfl [0] rfl (by show [It.blk b9 220 ((tb g).setIfInBounds _ (.bool true))] = _; rw [tb_set (m := 40 * (q - 1) + k) (by omega)])
          · exact hI.step hn (by rw [hI.onStar hst, show g (40 * q + k) = true from hs38]; rfl)
          · show k < k + 1; omega
        ·
          refine WQ.p rfl rfl rfl (P.move rfl) ?_
          refine WQ.p rfl rfl rfl (P.move rfl) ?_
          refine WQ.p rfl rfl rfl (P.cmp rfl rfl rfl) ?_
          refine WQ.p rfl rfl rfl (P.move rfl) ?_
          refine WQ.split 42 rfl (fun hs42 => ?_) (fun hs42 => ?_)
          ·
            refine WQ.p rfl rfl rfl (P.move rfl) ?_
            refine WQ.p rfl rfl rfl (P.move rfl) ?_
            refine WQ.p rfl rfl rfl (P.ari64 rfl rfl rfl (by omega)) ?_
            refine WQ.p rfl rfl rfl (P.elemArr Tryz.underlying220 Tryz.sizeOf219 rfl rfl (by omega) (by omega)) ?_
            refine WQ.p rfl rfl rfl (P.elemArr Tryz.underlying219 Tryz.sizeOf4 rfl rfl (by omega) (by have := of_decide_eq_true hs42; omega)) ?_
            refine WQ.p rfl rfl rfl (P.loadO 0 Tryz.isAgg4 rfl rfl (tb_at (m := 40 * (q - 1) + (k + 1)) (by omega) (by have := of_decide_eq_true hs42; omega))) ?_
            refine WQ.p rfl rfl rfl (P.pickT rfl rfl) ?_
            refine WQ.p rfl rfl rfl (P.pickF rfl rfl) ?_
            refine WQ.p rfl rfl rfl (P.elemArr Tryz.underlying220 Tryz.sizeOf219 rfl rfl (by omega) (by omega)) ?_
            refine WQ.p rfl rfl rfl (P.elemArr Tryz.underlying219 Tryz.sizeOf4 rfl rfl (by omega) (by omega)) ?_
            refine WQ.nil_ (End.lastly ?_)
            refine WL.store 0 Tryz.sizeOf4 rfl rfl rfl rfl rfl (by rw [tb_size]; exact blt_of (by omega)) ?_
            refine WL.nil_ ?_
            refine End.blkN ?_
            refine End.seq ?_
            refine WC.region ?_
            refine WL.p rfl rfl rfl (P.move rfl) ?_
            refine WL.p rfl rfl rfl (P.ari64 rfl rfl rfl (by omega)) ?_
            refine WL.p rfl rfl rfl (P.assign rfl) ?_
            refine WL.nil_ ?_
            refine End.againD (k, updB g (40 * (q - 1) + k) (g (40 * (q - 1) + (k + 1)))) ?_ ?_ rfl (Env.sub_cons (by show some (Value.int .i64 (((k + 1 : Nat) : Int) - 1 - 1)) = some (Value.int .i64 ((k : Int) - 1)); congr 2; omega) Env.sub_nil) rfl [0] rfl (by show [It.blk b9 220 ((tb g).setIfInBounds _ (.bool (g (40 * (q - 1) + (k + 1)))))] = _; rw [tb_set (m := 40 * (q - 1) + k) (by omega)])
            · exact hI.step hn (by rw [hI.onStar hst, show g (40 * q + k) = false from hs38, decide_eq_true (by have := of_decide_eq_true hs42; omega)]; rfl)
            · show k < k + 1; omega
          ·
            refine WQ.off rfl rfl ?_
            refine WQ.off rfl rfl ?_
            refine WQ.off rfl rfl ?_
            refine WQ.off rfl rfl ?_
            refine WQ.off rfl rfl ?_
            refine WQ.off rfl rfl ?_
            refine WQ.p rfl rfl rfl (P.pickF rfl rfl) ?_
            refine WQ.p rfl rfl rfl (P.pickF rfl rfl) ?_
            refine WQ.p rfl rfl rfl (P.elemArr Tryz.underlying220 Tryz.sizeOf219 rfl rfl (by omega) (by omega)) ?_
            refine WQ.p rfl rfl rfl (P.elemArr Tryz.underlying219 Tryz.sizeOf4 rfl rfl (by omega) (by omega)) ?_
            refine WQ.nil_ (End.lastly ?_)
            refine WL.store 0 Tryz.sizeOf4 rfl rfl rfl rfl rfl (by rw [tb_size]; exact blt_of (by omega)) ?_
            refine WL.nil_ ?_
            refine End.blkN ?_
            refine End.seq ?_
            refine WC.region ?_
            refine WL.p rfl rfl rfl (P.move rfl) ?_
            refine WL.p rfl rfl rfl (P.ari64 rfl rfl rfl (by omega)) ?_
            refine WL.p rfl rfl rfl (P.assign rfl) ?_
            refine WL.nil_ ?_
            refine End.againD (k, updB g (40 * (q - 1) + k) false) ?_ ?_ rfl (Env.sub_cons (by show some (Value.int .i64 (((k + 1 : Nat) : Int) - 1 - 1)) = some (Value.int .i64 ((k : Int) - 1)); congr 2; omega) Env.sub_nil) rfl [0] rfl (by show [It.blk b9 220 ((tb g).setIfInBounds _ (.bool false))] = _; rw [tb_set (m := 40 * (q - 1) + k) (by omega)])
            · exact hI.step hn (by rw [hI.onStar hst, show g (40 * q + k) = false from hs38, decide_eq_false (by have := of_decide_eq_false hs42; omega)]; rfl)
            · show k < k + 1; omega
      ·
        have hst : star (q - 1) = false := by rw [show q - 1 = ((q : Int) - 1).toNat by omega]; exact hc29
        refine WC.lastP rfl (by kernel_rfl) (by kernel_rfl) (by kernel_rfl) (by kernel_rfl) (by kernel_rfl) ?_
        refine WQ.p rfl rfl rfl (P.move rfl) ?_
        refine WQ.p rfl rfl rfl (P.move rfl) ?_
        refine WQ.p rfl rfl rfl (P.move rfl) ?_
        refine WQ.p rfl rfl rfl (P.move rfl) ?_
        refine WQ.p rfl rfl rfl (P.cmp rfl rfl rfl) ?_
        refine WQ.p rfl rfl rfl (P.move rfl) ?_
        refine WQ.split 58 rfl (fun hs58 => ?_) (fun hs58 => ?_)
        ·
          refine WQ.p rfl rfl rfl (P.move rfl) ?_
          refine WQ.p rfl rfl rfl (P.ari64 rfl rfl rfl (by omega)) ?_
          refine WQ.p rfl rfl rfl (P.move rfl) ?_
          refine WQ.p rfl rfl rfl (P.ari64 rfl rfl rfl (by omega)) ?_
          refine WQ.p rfl rfl rfl (P.elemArr Tryz.underlying220 Tryz.sizeOf219 rfl rfl (by omega) (by omega)) ?_
          refine WQ.p rfl rfl rfl (P.elemArr Tryz.underlying219 Tryz.sizeOf4 rfl rfl (by omega) (by have := of_decide_eq_true hs58; omega)) ?_
          refine WQ.p rfl rfl rfl (P.loadO 0 Tryz.isAgg4 rfl rfl (tb_at (m := 40 * q + (k + 1)) (by omega) (by have := of_decide_eq_true hs58; omega))) ?_
          refine WQ.p rfl rfl rfl (P.pickT rfl rfl) ?_
          refine WQ.p rfl rfl rfl (P.move rfl) ?_
          refine WQ.split 67 rfl (fun hs67 => ?_) (fun hs67 => ?_)
          ·
            refine WQ.p rfl rfl rfl (P.move rfl) ?_
            refine WQ.p rfl rfl rfl (P.move rfl) ?_
            refine WQ.p rfl rfl rfl (P.move rfl) ?_
            refine WQ.callc h2.ent rfl rfl rfl rfl (fun w hs => h2.at_ _ _ w hs.below (by omega) (by omega) (by omega) (by have := of_decide_eq_true hs58; omega)) ?_
            refine WQ.p rfl rfl rfl (P.pickT rfl rfl) ?_
            refine WQ.p rfl rfl rfl (P.elemArr Tryz.underlying220 Tryz.sizeOf219 rfl rfl (by omega) (by omega)) ?_
            refine WQ.p rfl rfl rfl (P.elemArr Tryz.underlying219 Tryz.sizeOf4 rfl rfl (by omega) (by omega)) ?_
            refine WQ.nil_ (End.lastly ?_)
            refine WL.store 0 Tryz.sizeOf4 rfl rfl rfl rfl rfl (by rw [tb_size]; exact blt_of (by omega)) ?_
            refine WL.nil_ ?_
            refine End.blkN ?_
            refine End.seq ?_
            refine WC.region ?_
            refine WL.p rfl rfl rfl (P.move rfl) ?_
            refine WL.p rfl rfl rfl (P.ari64 rfl rfl rfl (by omega)) ?_
            refine WL.p rfl rfl rfl (P.assign rfl) ?_
            refine WL.nil_ ?_
            refine End.againD (k, updB g (40 * (q - 1) + k) (one ((q : Int) - 1).toNat (((k + 1 : Nat) : Int) - 1).toNat)) ?_ ?_ rfl (Env.sub_cons (by show some (Value.int .i64 (((k + 1 : Nat) : Int) - 1 - 1)) = some (Value.int .i64 ((k : Int) - 1)); congr 2; omega) Env.sub_nil) rfl [0] rfl (by show [It.blk b9 220 ((tb g).setIfInBounds _ (.bool (one ((q : Int) - 1).toNat (((k + 1 : Nat) : Int) - 1).toNat)))] = _; rw [tb_set (m := 40 * (q - 1) + k) (by omega)])
            · exact hI.step hn (by rw [hI.onPlain hst, show g (40 * q + (k + 1)) = true from hs67, decide_eq_true (by have := of_decide_eq_true hs58; omega), show ((q : Int) - 1).toNat = q - 1 by omega, show (((k + 1 : Nat) : Int) - 1).toNat = k by omega]; rfl)
            · show k < k + 1; omega
          ·
            refine WQ.off rfl rfl ?_
            refine WQ.off rfl rfl ?_
            refine WQ.off rfl rfl ?_
            refine WQ.off rfl rfl ?_
            refine WQ.p rfl rfl rfl (P.pickF rfl rfl) ?_
            refine WQ.p rfl rfl rfl (P.elemArr Tryz.underlying220 Tryz.sizeOf219 rfl rfl (by omega) (by omega)) ?_
            refine WQ.p rfl rfl rfl (P.elemArr Tryz.underlying219 Tryz.sizeOf4 rfl rfl (by omega) (by omega)) ?_
            refine WQ.nil_ (End.lastly ?_)
            refine WL.store 0 Tryz.sizeOf4 rfl rfl rfl rfl rfl (by rw [tb_size]; exact blt_of (by omega)) ?_
            refine WL.nil_ ?_
            refine End.blkN ?_
            refine End.seq ?_
            refine WC.region ?_
            refine WL.p rfl rfl rfl (P.move rfl) ?_
            refine WL.p rfl rfl rfl (P.ari64 rfl rfl rfl (by omega)) ?_
            refine WL.p rfl rfl rfl (P.assign rfl) ?_
            refine WL.nil_ ?_
            refine End.againD (k, updB g (40 * (q - 1) + k) false) ?_ ?_ rfl (Env.sub_cons (by show some (Value.int .i64 (((k + 1 : Nat) : Int) - 1 - 1)) = some (Value.int .i64 ((k : Int) - 1)); congr 2; omega) Env.sub_nil) rfl [0] rfl (by show [It.blk b9 220 ((tb g).setIfInBounds _ (.bool false))] = _; rw [tb_set (m := 40 * (q - 1) + k) (by omega)])
            · exact hI.step hn (by rw [hI.onPlain hst, show g (40 * q + (k + 1)) = false from hs67]; simp)
            · show k < k + 1; omega
        ·
          refine WQ.off rfl rfl ?_
          refine WQ.off rfl rfl ?_
          refine WQ.off rfl rfl ?_
          refine WQ.off rfl rfl ?_
          refine WQ.off rfl rfl ?_
          refine WQ.off rfl rfl ?_
          refine WQ.off rfl rfl ?_
          refine WQ.p rfl rfl rfl (P.pickF rfl rfl) ?_
          refine WQ.p rfl rfl rfl (P.move rfl) ?_
          refine WQ.off rfl rfl ?_
          refine WQ.off rfl rfl ?_
          refine WQ.off rfl rfl ?_
          refine WQ.off rfl rfl ?_
          refine WQ.p rfl rfl rfl (P.pickF rfl rfl) ?_
          refine WQ.p rfl rfl rfl (P.elemArr Tryz.underlying220 Tryz.sizeOf219 rfl rfl (by omega) (by omega)) ?_
          refine WQ.p rfl rfl rfl (P.elemArr Tryz.underlying219 Tryz.sizeOf4 rfl rfl (by omega) (by omega)) ?_
          refine WQ.nil_ (End.lastly ?_)
          refine WL.store 0 Tryz.sizeOf4 rfl rfl rfl rfl rfl (by rw [tb_size]; exact blt_of (by omega)) ?_
          refine WL.nil_ ?_
          refine End.blkN ?_
          refine End.seq ?_
          refine WC.region ?_
          refine WL.p rfl rfl rfl (P.move rfl) ?_
          refine WL.p rfl rfl rfl (P.ari64 rfl rfl rfl (by omega)) ?_
          refine WL.p rfl rfl rfl (P.assign rfl) ?_
          refine WL.nil_ ?_
          refine End.againD (k, updB g (40 * (q - 1) + k) false) ?_ ?_ rfl (Env.sub_cons (by show some (Value.int .i64 (((k + 1 : Nat) : Int) - 1 - 1)) = some (Value.int .i64 ((k : Int) - 1)); congr 2; omega) Env.sub_nil) rfl [0] rfl (by show [It.blk b9 220 ((tb g).setIfInBounds _ (.bool false))] = _; rw [tb_set (m := 40 * (q - 1) + k) (by omega)])
          · exact hI.step hn (by rw [hI.onPlain hst, decide_eq_false (by have := of_decide_eq_false hs58; omega)]; rfl)
          · show k < k + 1; omega
    ·
      obtain rfl : k = 0 := by have := of_decide_eq_false hc24; omega
      refine WC.exit ?_
      refine End.thenX ?_
      refine End.thenX ?_
      refine End.blkX ?_
      refine End.blkN ?_
      refine End.seq ?_
      refine WC.region ?_
      refine WL.p rfl rfl rfl (P.move rfl) ?_
      refine WL.p rfl rfl rfl (P.ari64 rfl rfl rfl (by omega)) ?_
      refine WL.p rfl rfl rfl (P.assign rfl) ?_
      refine WL.nil_ ?_
      refine End.againD (q - 1, g) ?_ ?_ rfl (Env.sub_cons (by show some (Value.int .i64 ((q : Int) - 1 - 1)) = some (Value.int .i64 (((q - 1 : Nat) : Int) - 1)); congr 2; omega) Env.sub_nil) rfl [0] rfl rfl
      · exact hI.up
      · show q - 1 < q; omega
  ·
    have hq0 : q = 0 := by have := of_decide_eq_false hc19; omega
    subst hq0
    refine WC.exit ?_
    refine End.thenX ?_
    refine End.thenX ?_
    refine End.blkX ?_
    refine End.seq ?_
    refine WC.seq ?_
    refine WC.region ?_
    refine WL.p rfl rfl rfl (P.elemArr Tryz.underlying220 Tryz.sizeOf219 rfl rfl (by omega) (by omega)) ?_
    refine WL.p rfl rfl rfl (P.elemArr Tryz.underlying219 Tryz.sizeOf4 rfl rfl (by omega) (by omega)) ?_
    refine WL.p rfl rfl rfl (P.loadO 0 Tryz.isAgg4 rfl rfl (tb_at (m := 40 * 0 + 0) (by simp) (by omega))) ?_
    refine WL.p rfl rfl rfl (P.assign rfl) ?_
    refine WL.nil_ ?_
    refine End.seq ?_
    refine WC.ret ?_
    refine End.ret1 rfl rfl ?_
    exact fun w' hs' => RetV.of (by rw [hR.2 0 0 (Nat.le_refl _) (Nat.zero_le _) (Nat.zero_le _)]; rfl) hs'

end Go.Proofs.YtlkkiimmangplaaGreatDoor

/- Matching. -/
namespace Go.Proofs.YtlkkiimmangplaaGreatDoor
open Go.RowKit
set_option linter.unusedVariables false
set_option linter.unusedSimpArgs false

theorem Sl.elS {w : World} {b off : Nat} {xs : List ByteArray} {i : Int} {x : ByteArray} (h : Sl encS 1 w (some ⟨b, off, none⟩) xs) (h0 : 0 ≤ i) (hx : xs[i.toNat]? = some x) : w.cell? ⟨b, off + i.toNat * 1, none⟩ = some (.string x) := by
  obtain ⟨b', o', e, hc⟩ := h.at_ (by have := (List.getElem?_eq_some_iff.1 hx).1; omega)
  cases e
  have := hc i.toNat x hx 0 (.string x) rfl
  rw [Int.toNat_natCast] at this
  exact this
theorem cell_own {w0 w w' : World} {H : List It} {j b t : Nat} {cs : Array Value} {v : Value} (hs : St w0 H w) (hj : H[j]? = some (.blk b t cs)) (hv : cs[0]? = some v) (hb : Below w.heap.size w w') : w'.cell? ⟨b, 0, none⟩ = some v := by
  have h0 : w.cell? ⟨b, 0, none⟩ = some v := (cell_blk (hs.ok j _ hj).2).trans hv
  exact (hb.cell (World.block_lt_of_cell? _ _ h0)).trans h0
/-- A part of a pattern that stands for any number of parts; a byte that stands for any number of bytes. -/
def starP (a : List ByteArray) (i : Nat) : Bool := (a.getD i bempty).toList == stars.toList
def byteN (s : ByteArray) (i : Nat) : Int := ((s.data.toList[i]?.getD 0).toNat : Int)
def partM (q s : ByteArray) : Bool := tblP q.size s.size (fun i => byteN q i == 42) (fun i k => byteN q i == byteN s k)
def matchB (p name : ByteArray) : Bool := patB p && (nameB name && tblP (parts p).length (parts name).length (starP (parts p)) (fun i k => partM ((parts p).getD i bempty) ((parts name).getD k bempty)))
theorem getD_ofS {a : List ByteArray} {i : Nat} {x : ByteArray} (h : a[i]? = some x) : a.getD i bempty = x := by rw [List.getD_eq_getElem?_getD, h]; rfl
theorem parts_el {s q : ByteArray} (h : q ∈ parts s) : q.size ≤ s.size := by
  rw [parts_eq] at h
  exact spB_el h

set_option maxRecDepth 100000 in
theorem starP_any (i : Int) (b g off c : Nat) (xs : List ByteArray) (w : World) (h0 : 0 ≤ i) (h1 : i < xs.length) (hc : w.cell? ⟨b, 0, none⟩ = some (.slice (some ⟨g, off, none⟩) xs.length c)) (hr : Sl encS 1 w (some ⟨g, off, none⟩) xs) :
    Calls Tryz.prog 109 #[.int .i64 i, .pointer (some ⟨b, 0, none⟩)] w (RetV w (.bool (starP xs i.toNat))) := by
  obtain ⟨x, hx⟩ := get_of_lt (xs := xs) (k := i.toNat) (by omega)
  refine enter Tryz.func109 rfl Tryz.ntmps109 rfl ?_
  refine WC.seq ?_
  refine WC.region ?_
  refine WL.p rfl rfl rfl (P.assign rfl) ?_
  refine WL.nil_ ?_
  refine End.seq ?_
  refine WC.seq ?_
  refine WC.region ?_
  refine WL.p rfl rfl rfl (P.loadB Tryz.isAgg48 rfl (by assumption)) ?_
  refine WL.p rfl rfl rfl (P.move rfl) ?_
  refine WL.p rfl rfl rfl (P.elemAddr Tryz.underlying48 Tryz.sizeOf9 rfl rfl (by omega) (by omega)) ?_
  refine WL.p rfl rfl rfl (P.loadB Tryz.isAgg9 rfl (hr.elS h0 hx)) ?_
  refine WL.p rfl rfl rfl (P.cmps rfl rfl rfl) ?_
  refine WL.p rfl rfl rfl (P.assign rfl) ?_
  refine WL.nil_ ?_
  refine End.seq ?_
  refine WC.ret ?_
  refine End.ret1 rfl rfl ?_
  exact fun w' hs' => RetV.of (by rw [starP, getD_ofS hx]; rfl) hs'

set_option maxRecDepth 100000 in
theorem byteStar_any (i : Int) (b : Nat) (q : ByteArray) (w : World) (h0 : 0 ≤ i) (h1 : i < q.size) (hc : w.cell? ⟨b, 0, none⟩ = some (.string q)) :
    Calls Tryz.prog 111 #[.int .i64 i, .pointer (some ⟨b, 0, none⟩)] w (RetV w (.bool (byteN q i.toNat == 42))) := by
  refine enter Tryz.func111 rfl Tryz.ntmps111 rfl ?_
  refine WC.seq ?_
  refine WC.region ?_
  refine WL.p rfl rfl rfl (P.assign rfl) ?_
  refine WL.nil_ ?_
  refine End.seq ?_
  refine WC.seq ?_
  refine WC.region ?_
  refine WL.p rfl rfl rfl (P.loadB Tryz.isAgg9 rfl (by assumption)) ?_
  refine WL.p rfl rfl rfl (P.move rfl) ?_
  refine WL.p rfl rfl rfl (P.byte Tryz.underlying9 rfl rfl (by omega) (by omega)) ?_
  refine WL.p rfl rfl rfl (P.cmp rfl rfl rfl) ?_
  refine WL.p rfl rfl rfl (P.assign rfl) ?_
  refine WL.nil_ ?_
  refine End.seq ?_
  refine WC.ret ?_
  refine End.ret1 rfl rfl ?_
  exact fun w' hs' => RetV.of rfl hs'

set_option maxRecDepth 100000 in
theorem byteOne_any (i k : Int) (b b' : Nat) (q s : ByteArray) (w : World) (h0 : 0 ≤ i) (h1 : i < q.size) (h2 : 0 ≤ k) (h3 : k < s.size) (hc : w.cell? ⟨b, 0, none⟩ = some (.string q)) (hc' : w.cell? ⟨b', 0, none⟩ = some (.string s)) :
    Calls Tryz.prog 112 #[.int .i64 i, .int .i64 k, .pointer (some ⟨b, 0, none⟩), .pointer (some ⟨b', 0, none⟩)] w (RetV w (.bool (byteN q i.toNat == byteN s k.toNat))) := by
  refine enter Tryz.func112 rfl Tryz.ntmps112 rfl ?_
  refine WC.seq ?_
  refine WC.region ?_
  refine WL.p rfl rfl rfl (P.assign rfl) ?_
  refine WL.nil_ ?_
  refine End.seq ?_
  refine WC.seq ?_
  refine WC.quiet (by kernel_rfl) ?_
  refine WQ.p rfl rfl rfl (P.loadB Tryz.isAgg9 rfl (by assumption)) ?_
  refine WQ.p rfl rfl rfl (P.move rfl) ?_
  refine WQ.p rfl rfl rfl (P.byte Tryz.underlying9 rfl rfl (by omega) (by omega)) ?_
  refine WQ.p rfl rfl rfl (P.loadB Tryz.isAgg9 rfl (by assumption)) ?_
  refine WQ.p rfl rfl rfl (P.move rfl) ?_
  refine WQ.p rfl rfl rfl (P.byte Tryz.underlying9 rfl rfl (by omega) (by omega)) ?_
  refine WQ.p rfl rfl rfl (P.cmp rfl rfl rfl) ?_
  refine WQ.p rfl rfl rfl (P.assign rfl) ?_
  refine WQ.nil_ ?_
  refine End.seq ?_
  refine WC.ret ?_
  refine End.ret1 rfl rfl ?_
  exact fun w' hs' => RetV.of rfl hs'

set_option maxRecDepth 100000 in
theorem partM_any (i k : Int) (b b' g g' off off' c c' : Nat) (xs ys : List ByteArray) (w : World) (h0 : 0 ≤ i) (h1 : i < xs.length) (h2 : 0 ≤ k) (h3 : k < ys.length) (hx39 : ∀ x ∈ xs, x.size < 40) (hy39 : ∀ y ∈ ys, y.size < 40) (hc : w.cell? ⟨b, 0, none⟩ = some (.slice (some ⟨g, off, none⟩) xs.length c)) (hr : Sl encS 1 w (some ⟨g, off, none⟩) xs) (hc' : w.cell? ⟨b', 0, none⟩ = some (.slice (some ⟨g', off', none⟩) ys.length c')) (hr' : Sl encS 1 w (some ⟨g', off', none⟩) ys) :
    Calls Tryz.prog 110 #[.int .i64 i, .int .i64 k, .pointer (some ⟨b, 0, none⟩), .pointer (some ⟨b', 0, none⟩)] w (RetV w (.bool (partM (xs.getD i.toNat bempty) (ys.getD k.toNat bempty)))) := by
  obtain ⟨x, hx⟩ := get_of_lt (xs := xs) (k := i.toNat) (by omega)
  obtain ⟨y, hy⟩ := get_of_lt (xs := ys) (k := k.toNat) (by omega)
  rw [getD_ofS hx, getD_ofS hy]
  refine enter Tryz.func110 rfl Tryz.ntmps110 rfl ?_
  refine WC.seq ?_
  refine WC.region ?_
  refine WL.p rfl rfl rfl (P.assign rfl) ?_
  refine WL.nil_ ?_
  refine End.seq ?_
  refine WC.seq ?_
  refine WC.nil1 ?_
  refine WC.nil1 ?_
  apply WC.draws (al := [8, 9]) (vs := [_, _, _, _, _, _, _, _, fun s => .pointer (some ⟨(s 8).1, 0, none⟩), fun s => .pointer (some ⟨(s 9).1, 0, none⟩), fun _ => undef, fun _ => undef]) (Hs := fun v HH b s => (bnew (b 9) (It.blk (s 9).1 9 (lay #[.string ⟨#[]⟩] [(b 11, 0, 1, [v 7 s])])) (bnew (b 8) (It.blk (s 8).1 9 (lay #[.string ⟨#[]⟩] [(b 10, 0, 1, [v 3 s])])) HH 0) 1)) (by kernel_rfl) (by kernel_rfl) (by kernel_rfl)
  case steps =>
    refine Stps.cons (Stp.p (fun b s hd => ⟨_, ⟨rfl, P.loadB Tryz.isAgg48 rfl (by assumption)⟩, rfl, rfl⟩)) ?_
    refine Stps.cons (Stp.p (fun b s hd => ⟨_, ⟨rfl, P.move rfl⟩, rfl, rfl⟩)) ?_
    refine Stps.cons (Stp.p (fun b s hd => ⟨_, ⟨rfl, P.elemAddr Tryz.underlying48 Tryz.sizeOf9 rfl rfl (by omega) (by omega)⟩, rfl, rfl⟩)) ?_
    refine Stps.cons (Stp.p (fun b s hd => ⟨_, ⟨rfl, P.loadB Tryz.isAgg9 rfl (hr.elS h0 hx)⟩, rfl, rfl⟩)) ?_
    refine Stps.cons (Stp.p (fun b s hd => ⟨_, ⟨rfl, P.loadB Tryz.isAgg48 rfl (by assumption)⟩, rfl, rfl⟩)) ?_
    refine Stps.cons (Stp.p (fun b s hd => ⟨_, ⟨rfl, P.move rfl⟩, rfl, rfl⟩)) ?_
    refine Stps.cons (Stp.p (fun b s hd => ⟨_, ⟨rfl, P.elemAddr Tryz.underlying48 Tryz.sizeOf9 rfl rfl (by omega) (by omega)⟩, rfl, rfl⟩)) ?_
    refine Stps.cons (Stp.p (fun b s hd => ⟨_, ⟨rfl, P.loadB Tryz.isAgg9 rfl (hr'.elS h2 hy)⟩, rfl, rfl⟩)) ?_
    refine Stps.cons (Stp.off [10] (by kernel_rfl) (Stp.alloc 0 Tryz.zeroValue9 rfl (fun b s q => ⟨rfl, rfl, _, rfl, fun hb => rfl⟩))) ?_
    refine Stps.cons (Stp.off [11] (by kernel_rfl) (Stp.alloc 1 Tryz.zeroValue9 rfl (fun b s q => ⟨rfl, rfl, _, rfl, fun hb => rfl⟩))) ?_
    refine Stps.cons (Stp.store 0 0 Tryz.sizeOf9 (fun b s hd => ⟨b 8, _, _, _, _, _, _, rfl, rfl, rfl, rfl, rfl, hd 8 (by decide), rfl, rfl, rfl, rfl, rfl⟩)) ?_
    refine Stps.cons (Stp.store 1 0 Tryz.sizeOf9 (fun b s hd => ⟨b 9, _, _, _, _, _, _, rfl, rfl, rfl, rfl, rfl, hd 9 (by decide), rfl, rfl, rfl, rfl, rfl⟩)) ?_
    exact Stps.nil
  case h0 => exact fun s => rfl
  case agree => exact AgrAll.cons (AgrL.no (fun s x => rfl) (AgrL.no (fun s x => rfl) (AgrL.no (fun s x => rfl) (AgrL.no (fun s x => rfl) (AgrL.no (fun s x => rfl) (AgrL.no (fun s x => rfl) (AgrL.no (fun s x => rfl) (AgrL.no (fun s x => rfl) (AgrL.yes (by kernel_rfl) (AgrL.no (fun s x => rfl) (AgrL.yes (by kernel_rfl) (AgrL.yes (by kernel_rfl) (AgrL.nil))))))))))))) (AgrAll.cons (AgrL.no (fun s x => rfl) (AgrL.no (fun s x => rfl) (AgrL.no (fun s x => rfl) (AgrL.no (fun s x => rfl) (AgrL.no (fun s x => rfl) (AgrL.no (fun s x => rfl) (AgrL.no (fun s x => rfl) (AgrL.no (fun s x => rfl) (AgrL.no (fun s x => rfl) (AgrL.yes (by kernel_rfl) (AgrL.yes (by kernel_rfl) (AgrL.yes (by kernel_rfl) (AgrL.nil))))))))))))) (AgrAll.nil))
  intro s1
  refine End.shapeC (by kernel_rfl) (new := [(7, _), (8, _), (9, _), (10, _), (11, _), (12, _), (13, _), (14, _), (15, _), (16, _)]) (H' := [.blk _ _ #[_], .blk _ _ #[_]]) (Env.sub_cons rfl (Env.sub_cons rfl (Env.sub_cons rfl (Env.sub_cons rfl (Env.sub_cons rfl (Env.sub_cons rfl (Env.sub_cons rfl (Env.sub_cons rfl (Env.sub_cons rfl (Env.sub_cons rfl (Env.sub_nil))))))))))) rfl ?_
  refine End.seq ?_
  refine WC.seq ?_
  refine WC.region ?_
  refine WL.p rfl rfl rfl (P.loadO 0 Tryz.isAgg9 rfl rfl rfl) ?_
  refine WL.p rfl rfl rfl (P.lenS Tryz.underlying9 rfl) ?_
  refine WL.p rfl rfl rfl (P.loadO 1 Tryz.isAgg9 rfl rfl rfl) ?_
  refine WL.p rfl rfl rfl (P.lenS Tryz.underlying9 rfl) ?_
  refine WL.p rfl rfl rfl (P.makeFunc rfl) ?_
  refine WL.p rfl rfl rfl (P.makeFunc rfl) ?_
  refine WL.callv (ent_of Tryz.func108 rfl rfl) rfl rfl rfl (fun w hs => table_any x.size y.size 111 112 _ _ (fun i => byteN x i == 42) (fun i k => byteN x i == byteN y k) w (hx39 x (List.mem_of_getElem? hx)) (hy39 y (List.mem_of_getElem? hy)) ⟨ent_of Tryz.func111 rfl rfl, fun i w' hb h0 h1 => byteStar_any i (s1 8).1 x w' h0 h1 (cell_own hs (j := 0) rfl rfl hb)⟩ ⟨ent_of Tryz.func112 rfl rfl, fun i k w' hb h0 h1 h2 h3 => byteOne_any i k (s1 8).1 (s1 9).1 x y w' h0 h1 h2 h3 (cell_own hs (j := 0) rfl rfl hb) (cell_own hs (j := 1) rfl rfl hb)⟩) ?_
  refine WL.p rfl rfl rfl (P.assign rfl) ?_
  refine WL.nil_ ?_
  refine End.seq ?_
  refine WC.ret ?_
  refine End.ret1 rfl rfl ?_
  exact fun w' hs' => RetV.of rfl hs'

set_option maxRecDepth 100000 in
theorem match_any (p name : ByteArray) (w : World) (hg : Good w) :
    Calls Tryz.prog 40 #[.string p, .string name] w (RetV w (.bool (matchB p name))) := by
  refine enter Tryz.func40 rfl Tryz.ntmps40 rfl ?_
  refine WC.seq ?_
  refine WC.region ?_
  refine WL.p rfl rfl rfl (P.assign rfl) ?_
  refine WL.nil_ ?_
  refine End.seq ?_
  refine WC.seq ?_
  refine WC.seq ?_
  refine WC.region ?_
  refine WL.p rfl rfl rfl (P.move rfl) ?_
  refine WL.callv (ent_of Tryz.func106 rfl rfl) rfl rfl rfl (fun w hs => pattern_any p w (hg.st hs)) ?_
  refine WL.p rfl rfl rfl (P.not_ rfl) ?_
  refine WL.p rfl rfl rfl (P.move rfl) ?_
  refine WL.split 10 rfl (fun hs10 => ?_) (fun hs10 => ?_)
  ·
    refine WL.off rfl rfl ?_
    refine WL.off rfl rfl ?_
    refine WL.off rfl rfl ?_
    refine WL.p rfl rfl rfl (P.pickT rfl rfl) ?_
    refine WL.nil_ ?_
    refine End.seq ?_
    refine WC.condT rfl ?_
    refine WC.seq ?_
    refine WC.region ?_
    refine WL.p rfl rfl rfl (P.assign rfl) ?_
    refine WL.nil_ ?_
    refine End.seq ?_
    refine WC.ret ?_
    refine End.thenR ?_
    refine End.ret1 rfl rfl ?_
    exact fun w' hs' => RetV.of (by rw [matchB, show patB p = false by simpa using hs10]; rfl) hs'
  ·
    refine WL.p rfl rfl rfl (P.move rfl) ?_
    refine WL.callv (ent_of Tryz.func76 rfl rfl) rfl rfl rfl (fun w hs => nameValid_any name w (hg.st hs)) ?_
    refine WL.p rfl rfl rfl (P.not_ rfl) ?_
    refine WL.p rfl rfl rfl (P.pickF rfl rfl) ?_
    refine WL.nil_ ?_
    refine End.seq ?_
    refine WC.cond rfl (fun hc14 => ?_) (fun hc14 => ?_)
    ·
      refine WC.seq ?_
      refine WC.region ?_
      refine WL.p rfl rfl rfl (P.assign rfl) ?_
      refine WL.nil_ ?_
      refine End.seq ?_
      refine WC.ret ?_
      refine End.thenR ?_
      refine End.ret1 rfl rfl ?_
      exact fun w' hs' => RetV.of (by rw [matchB, show nameB name = false by simpa using hc14]; simp) hs'
    ·
      have hp : patB p = true := by simpa using hs10
      have hn : nameB name = true := by simpa using hc14
      have zp := allB_size hp
      have zn := name_size hn
      have lp := parts_le p
      have ln := parts_le name
      refine WC.skip ?_
      refine End.seq ?_
      refine WC.seq ?_
      refine WC.region ?_
      refine WL.p rfl rfl rfl (P.move rfl) ?_
      refine WL.callx (ent_of Tryz.func107 rfl rfl) rfl rfl rfl (fun w hs => split_any p w (hg.st hs) (by omega)) (fun g1 _ => ?_)
      refine WL.p rfl rfl rfl (P.move rfl) ?_
      refine WL.callx (ent_of Tryz.func107 rfl rfl) rfl rfl rfl (fun w hs => split_any name w (hg.st hs) (by omega)) (fun g2 _ => ?_)
      refine WL.alloc Tryz.zeroValue48 rfl rfl (fun b5 => ?_)
      refine WL.alloc Tryz.zeroValue48 rfl rfl (fun b6 => ?_)
      refine WL.store 1 Tryz.sizeOf48 rfl rfl rfl rfl rfl rfl ?_
      refine WL.store 0 Tryz.sizeOf48 rfl rfl rfl rfl rfl rfl ?_
      refine WL.nil_ ?_
      refine End.seq ?_
      refine WC.seq ?_
      refine WC.region ?_
      refine WL.p rfl rfl rfl (P.loadO 1 Tryz.isAgg48 rfl rfl rfl) ?_
      refine WL.p rfl rfl rfl (P.lenR Tryz.underlying48 rfl) ?_
      refine WL.p rfl rfl rfl (P.loadO 0 Tryz.isAgg48 rfl rfl rfl) ?_
      refine WL.p rfl rfl rfl (P.lenR Tryz.underlying48 rfl) ?_
      refine WL.p rfl rfl rfl (P.makeFunc rfl) ?_
      refine WL.p rfl rfl rfl (P.makeFunc rfl) ?_
      refine WL.callv (ent_of Tryz.func108 rfl rfl) rfl rfl rfl (fun w hs => table_any (parts p).length (parts name).length 109 110 _ _ (starP (parts p)) (fun i k => partM ((parts p).getD i bempty) ((parts name).getD k bempty)) w (by omega) (by omega) ⟨ent_of Tryz.func109 rfl rfl, fun i w' hb h0 h1 => starP_any i b5 g1 0 _ (parts p) w' h0 h1 (cell_own hs (j := 1) rfl rfl hb) ((sl_row hs (j := 3) rfl (by omega)).below hb)⟩ ⟨ent_of Tryz.func110 rfl rfl, fun i k w' hb h0 h1 h2 h3 => partM_any i k b5 b6 g1 g2 0 0 _ _ (parts p) (parts name) w' h0 h1 h2 h3 (fun x hx => by have := parts_el hx; omega) (fun x hx => by have := parts_el hx; omega) (cell_own hs (j := 1) rfl rfl hb) ((sl_row hs (j := 3) rfl (by omega)).below hb) (cell_own hs (j := 0) rfl rfl hb) ((sl_row hs (j := 2) rfl (by omega)).below hb)⟩) ?_
      refine WL.p rfl rfl rfl (P.assign rfl) ?_
      refine WL.nil_ ?_
      refine End.seq ?_
      refine WC.ret ?_
      refine End.ret1 rfl rfl ?_
      exact fun w' hs' => RetV.of (by rw [matchB, hp, hn]; rfl) hs'

end Go.Proofs.YtlkkiimmangplaaGreatDoor

/- The order of patterns. -/
namespace Go.Proofs.YtlkkiimmangplaaGreatDoor
open Go.RowKit
set_option linter.unusedVariables false
set_option linter.unusedSimpArgs false

/-- Joined with full stops. -/
def joinD (xs : List ByteArray) : ByteArray := ⟨(Lib.join (xs.map (·.data.toList)) [46]).toArray⟩
theorem joinL_len (sep : List UInt8) : ∀ (l : List (List UInt8)), (Lib.join l sep).length ≤ (l.map (fun x => x.length + sep.length)).sum
  | [] => by simp [Lib.join]
  | [x] => by simp [Lib.join]
  | x :: y :: r => by
    have ih := joinL_len sep (y :: r)
    have e : Lib.join (x :: y :: r) sep = x ++ (sep ++ Lib.join (y :: r) sep) := by
      rw [Lib.join_cons, Lib.join_cons]
      simp [Lib.joinTail]
    rw [e]
    simp only [List.length_append, List.map_cons, List.sum_cons] at ih ⊢
    omega
theorem joinD_le (B : Nat) (xs : List ByteArray) (h : ∀ x ∈ xs, x.size ≤ B) : (joinD xs).size ≤ (B + 1) * xs.length := by
  have h1 := joinL_len [46] (xs.map (·.data.toList))
  have h2 : ∀ l : List ByteArray, (∀ x ∈ l, x.size ≤ B) → ((l.map (·.data.toList)).map (fun x => x.length + [(46 : UInt8)].length)).sum ≤ (B + 1) * l.length := by
    intro l
    induction l with
    | nil => intro _; simp
    | cons x r ih =>
      intro h
      have h3 := ih (fun y hy => h y (List.mem_cons_of_mem _ hy))
      have h4 := h x List.mem_cons_self
      have h5 : x.data.toList.length = x.size := rfl
      simp only [List.map_cons, List.sum_cons, List.length_cons, List.length_nil, Nat.mul_add, Nat.mul_one] at h3 ⊢
      omega
  exact Nat.le_trans h1 (h2 xs h)
theorem join_sl (A : Option Addr) (c : Nat) (xs : List ByteArray) (w : World) (hr : Sl encS 1 w A xs) (hc : xs.length ≤ c) (hn : xs.length ≤ 1000) (hz : ∀ x ∈ xs, x.size ≤ 1000) :
    Calls Tryz.prog 134 #[.slice A xs.length c, .string dot] w (RetV w (.string (joinD xs))) := by
  have hl : (Lib.join (xs.map (·.data.toList)) [46]).length ≤ 140737488355328 := by
    have h1 : (Lib.join (xs.map (·.data.toList)) [46]).length ≤ (1000 + 1) * xs.length := joinD_le 1000 xs hz
    omega
  rcases Nat.eq_zero_or_pos xs.length with h0 | hp
  · obtain rfl := List.length_eq_zero_iff.1 h0
    exact (Tryz.strings_Join_none A c dot w).mono fun e w' ⟨h1, h2⟩ => ⟨h1, by rw [h2]; exact St.refl w⟩
  · obtain ⟨b, off, rfl, hcx⟩ := hr.at_ hp
    have hcell : ∀ (j : Nat) x, xs[j]? = some x → w.cell? ⟨b, off + j, none⟩ = some (.string x) := fun j x hx => by
      have := hcx j x hx 0 _ rfl
      simpa using this
    obtain ⟨x, hx⟩ := get_of_lt hp
    exact (Tryz.strings_Join b off c xs dot w hcell (World.block_lt_of_cell? _ _ (hcell 0 x hx)) (by omega) hc hl).mono fun e w' ⟨h1, h2⟩ => ⟨h1, ⟨h2, fun _ _ h => by simp at h, fun _ _ _ _ h => by simp at h⟩⟩
theorem join_any (b c : Nat) (xs : List ByteArray) (w0 w : World) (H : List It) (j : Nat) (hs : St w0 H w) (hj : H[j]? = some (.blk b 9 (xs.map Value.string).toArray)) (hc : xs.length ≤ c) (hn : xs.length ≤ 1000) (hz : ∀ x ∈ xs, x.size ≤ 1000) :
    Calls Tryz.prog 134 #[.slice (some ⟨b, 0, none⟩) xs.length c, .string dot] w (RetV w (.string (joinD xs))) := join_sl _ c xs w (sl_row hs hj (by omega)) hc hn hz
/-- Qualifiers that stand for any number of them are put last. -/
def rS (q : ByteArray) : ByteArray := if (q.toList == stars.toList) = true then ⟨#[255]⟩ else q
def starK (k : Nat) (l : List ByteArray) : List ByteArray := (l.take k).map rS ++ l.drop k
theorem starK_len (k : Nat) (l : List ByteArray) : (starK k l).length = l.length := by simp [starK]; omega
theorem starK_at {k : Nat} {l : List ByteArray} {x : ByteArray} (h : l[k]? = some x) : (starK k l)[k]? = some x := by
  have hk := (List.getElem?_eq_some_iff.1 h).1
  unfold starK
  rw [List.getElem?_append_right (by simp; omega)]
  simp [Nat.min_eq_left (Nat.le_of_lt hk), h]
theorem starK_step {k : Nat} {l : List ByteArray} {x : ByteArray} (h : l[k]? = some x) : starK (k + 1) l = (starK k l).set k (rS x) := by
  have hk := (List.getElem?_eq_some_iff.1 h).1
  unfold starK
  rw [take_snoc h, List.map_append, List.set_append_right _ _ (by simp; omega), drop_at h]
  simp [Nat.min_eq_left (Nat.le_of_lt hk)]
theorem starK_same {k : Nat} {l : List ByteArray} {x : ByteArray} (h : l[k]? = some x) (hx : (x.toList == stars.toList) = false) : starK (k + 1) l = starK k l := by
  rw [starK_step h, rS, if_neg (by rw [hx]; decide)]
  apply List.ext_getElem?
  intro i
  by_cases hi : k = i
  · subst hi
    rw [List.getElem?_set_self (by rw [starK_len]; exact (List.getElem?_eq_some_iff.1 h).1), starK_at h]
  · rw [List.getElem?_set_ne hi]
theorem starK_all (l : List ByteArray) : starK l.length l = l.map rS := by simp [starK]
theorem strsA_set (xs : List ByteArray) (k : Nat) (x : ByteArray) : ((xs.map Value.string).toArray).setIfInBounds k (.string x) = ((xs.set k x).map Value.string).toArray := by
  rw [List.setIfInBounds_toArray, List.map_set]
theorem rS_size (q : ByteArray) : (rS q).size ≤ q.size + 1 := by
  unfold rS
  split
  · show 1 ≤ _; omega
  · omega
def ordK (s : ByteArray) : ByteArray := ⟨(Lib.replaceAll (joinD ((parts s).map rS)).data.toList [42] [254]).toArray⟩
theorem countB_1 (s : ByteArray) : Lib.countB s ⟨#[42]⟩ ≤ s.size := Lib.countB_le _ (by decide) _ s (Nat.le_refl _)
theorem repl_any (s : ByteArray) (w : World) (hg : Good w) (hs : s.size < 1000000) : Calls Tryz.prog 242 #[.string s, .string ⟨#[42]⟩, .string ⟨#[254]⟩] w (RetV w (.string ⟨(Lib.replaceAll s.data.toList [42] [254]).toArray⟩)) := by
  have h := Tryz.strings_ReplaceAll_shaped s ⟨#[42]⟩ ⟨#[254]⟩ w hg.shaped (by omega) (by decide) (by have := countB_1 s; show s.size + Lib.countB s ⟨#[42]⟩ * 1 ≤ _; omega)
  exact h.mono fun e w' ⟨h1, h2⟩ => ⟨h1, ⟨h2, fun _ _ h => by simp at h, fun _ _ _ _ h => by simp at h⟩⟩

set_option maxRecDepth 100000 in
theorem ordK_any (s : ByteArray) (w : World) (hg : Good w) (hsz : s.size ≤ 31) :
    Calls Tryz.prog 241 #[.string s] w (RetV w (.string (ordK s))) := by
  have lp := parts_le s
  refine enter Tryz.func241 rfl Tryz.ntmps241 rfl ?_
  refine WC.seq ?_
  refine WC.region ?_
  refine WL.p rfl rfl rfl (P.assign rfl) ?_
  refine WL.nil_ ?_
  refine End.seq ?_
  refine WC.seq ?_
  refine WC.region ?_
  refine WL.p rfl rfl rfl (P.move rfl) ?_
  refine WL.callx (ent_of Tryz.func107 rfl rfl) rfl rfl rfl (fun w hs => split_any s w (hg.st hs) (by omega)) (fun g1 _ => ?_)
  refine WL.p rfl rfl rfl (P.assign rfl) ?_
  refine WL.nil_ ?_
  refine End.seq ?_
  refine WC.seq ?_
  refine WC.seq ?_
  refine WC.region ?_
  refine WL.p rfl rfl rfl (P.move rfl) ?_
  refine WL.p rfl rfl rfl (P.lenR Tryz.underlying48 rfl) ?_
  refine WL.p rfl rfl rfl (P.move rfl) ?_
  refine WL.nil_ ?_
  refine End.seq ?_
  refine WC.block ?_
  refine WC.loopD (σ := Nat) (fun k => [(10, .int .i64 (k : Nat))]) (fun k => [.blk g1 9 ((starK k (parts s)).map Value.string).toArray]) (fun k => k ≤ (parts s).length) (fun k => (parts s).length - k) 0 (Nat.zero_le _) (Env.sub_cons rfl (Env.sub_nil)) [0] rfl rfl ?_
  rintro k hk
  refine WC.seq ?_
  refine WC.region ?_
  refine WL.p rfl rfl rfl (P.cmp rfl rfl rfl) ?_
  refine WL.nil_ ?_
  refine End.seq ?_
  refine WC.seq ?_
  refine WC.cond rfl (fun hc11 => ?_) (fun hc11 => ?_)
  ·
    have hkl : k < (parts s).length := by have := of_decide_eq_true hc11; omega
    obtain ⟨x, hx⟩ := get_of_lt hkl
    refine WC.skip ?_
    refine End.seq ?_
    refine WC.seq ?_
    refine WC.block ?_
    refine WC.seq ?_
    refine WC.region ?_
    refine WL.p rfl rfl rfl (P.move rfl) ?_
    refine WL.p rfl rfl rfl (P.elemAddr Tryz.underlying48 Tryz.sizeOf9 rfl rfl (by omega) (by omega)) ?_
    refine WL.p rfl rfl rfl (P.loadO 0 Tryz.isAgg9 rfl rfl (show ((starK k (parts s)).map Value.string).toArray[0 + (k : Int).toNat * 1]? = some (.string x) by simp [starK_at hx])) ?_
    refine WL.p rfl rfl rfl (P.assign rfl) ?_
    refine WL.p rfl rfl rfl (P.assign rfl) ?_
    refine WL.nil_ ?_
    refine End.seq ?_
    refine WC.seq ?_
    refine WC.region ?_
    refine WL.p rfl rfl rfl (P.move rfl) ?_
    refine WL.p rfl rfl rfl (P.cmps rfl rfl rfl) ?_
    refine WL.nil_ ?_
    refine End.seq ?_
    refine WC.cond rfl (fun hc16 => ?_) (fun hc16 => ?_)
    ·
      refine WC.region ?_
      refine WL.p rfl rfl rfl (P.move rfl) ?_
      refine WL.p rfl rfl rfl (P.move rfl) ?_
      refine WL.p rfl rfl rfl (P.elemAddr Tryz.underlying48 Tryz.sizeOf9 rfl rfl (by omega) (by omega)) ?_
      refine WL.store 0 Tryz.sizeOf9 rfl rfl rfl rfl rfl (by rw [List.size_toArray, List.length_map, starK_len]; exact blt_of (by omega)) ?_
      refine WL.nil_ ?_
      refine End.blkN ?_
      refine End.seq ?_
      refine WC.region ?_
      refine WL.p rfl rfl rfl (P.ari64 rfl rfl rfl (by omega)) ?_
      refine WL.p rfl rfl rfl (P.move rfl) ?_
      refine WL.nil_ ?_
      refine End.againD (k + 1) ?_ ?_ rfl (Env.sub_cons rfl (Env.sub_nil)) rfl [0] rfl (by show [It.blk g1 9 (((starK k (parts s)).map Value.string).toArray.setIfInBounds _ (.string ⟨#[255]⟩))] = _; rw [strsA_set, starK_step hx, rS, if_pos (by exact hc16)]; simp)
      · show k + 1 ≤ _; omega
      · show (parts s).length - (k + 1) < (parts s).length - k; omega
    ·
      refine WC.skip ?_
      refine End.blkN ?_
      refine End.seq ?_
      refine WC.region ?_
      refine WL.p rfl rfl rfl (P.ari64 rfl rfl rfl (by omega)) ?_
      refine WL.p rfl rfl rfl (P.move rfl) ?_
      refine WL.nil_ ?_
      refine End.againD (k + 1) ?_ ?_ rfl (Env.sub_cons rfl (Env.sub_nil)) rfl [0] rfl (by rw [starK_same hx (by exact hc16)]; rfl)
      · show k + 1 ≤ _; omega
      · show (parts s).length - (k + 1) < (parts s).length - k; omega
  ·
    have ek : k = (parts s).length := by have := of_decide_eq_false hc11; omega
    refine WC.exit ?_
    refine End.thenX ?_
    refine End.thenX ?_
    refine End.blkX ?_
    refine End.seq ?_
    refine WC.seq ?_
    refine WC.region ?_
    have hel : ∀ x ∈ (parts s).map rS, x.size ≤ 32 := fun x hx => by obtain ⟨y, hy, rfl⟩ := List.mem_map.1 hx; have h1 := parts_el hy; have h2 := rS_size y; omega
    have hlen : ((parts s).map rS).length = (parts s).length := List.length_map ..
    refine WL.eqH [.blk g1 9 (((parts s).map rS).map Value.string).toArray] (by rw [ek, starK_all]) ?_
    have hjoin := fun (w' : World) (hs : St w [.blk g1 9 (((parts s).map rS).map Value.string).toArray] w') => join_any g1 (parts s).length ((parts s).map rS) w w' _ 0 hs rfl (by omega) (by omega) (fun x hx => by have := hel x hx; omega)
    rw [hlen] at hjoin
    refine WL.p rfl rfl rfl (P.move rfl) ?_
    refine WL.callv (ent_of Tryz.func134 rfl rfl) rfl rfl rfl (fun w hs => hjoin w hs) ?_
    refine WL.callv (ent_of Tryz.func242 rfl rfl) rfl rfl rfl (fun w hs => repl_any _ w (hg.st hs) (by have h3 := joinD_le 32 ((parts s).map rS) hel; rw [List.length_map] at h3; omega)) ?_
    refine WL.p rfl rfl rfl (P.assign rfl) ?_
    refine WL.nil_ ?_
    refine End.seq ?_
    refine WC.ret ?_
    refine End.ret1 rfl rfl ?_
    exact fun w' hs' => RetV.of rfl hs'

def ordB (a b : ByteArray) : Int := if patB a = true then (if patB b = true then Lib.compareBytes (ordK a).data.toList (ordK b).data.toList else 0) else 0
theorem compare_any (a b : ByteArray) (w : World) : Calls Tryz.prog 181 #[.string a, .string b] w (RetV w (.int .i64 (Lib.compareBytes a.data.toList b.data.toList))) :=
  (Tryz.strings_Compare a b w).mono fun e w' ⟨h1, h2⟩ => ⟨h1, by rw [h2]; exact St.refl w⟩

set_option maxRecDepth 100000 in
theorem order_any (a b : ByteArray) (w : World) (hg : Good w) :
    Calls Tryz.prog 155 #[.string a, .string b] w (RetV w (.int .i64 (ordB a b))) := by
  refine enter Tryz.func155 rfl Tryz.ntmps155 rfl ?_
  refine WC.seq ?_
  refine WC.region ?_
  refine WL.p rfl rfl rfl (P.assign rfl) ?_
  refine WL.nil_ ?_
  refine End.seq ?_
  refine WC.seq ?_
  refine WC.seq ?_
  refine WC.region ?_
  refine WL.p rfl rfl rfl (P.move rfl) ?_
  refine WL.callv (ent_of Tryz.func106 rfl rfl) rfl rfl rfl (fun w hs => pattern_any a w (hg.st hs)) ?_
  refine WL.p rfl rfl rfl (P.not_ rfl) ?_
  refine WL.p rfl rfl rfl (P.move rfl) ?_
  refine WL.split 9 rfl (fun hs9 => ?_) (fun hs9 => ?_)
  ·
    refine WL.off rfl rfl ?_
    refine WL.off rfl rfl ?_
    refine WL.off rfl rfl ?_
    refine WL.p rfl rfl rfl (P.pickT rfl rfl) ?_
    refine WL.nil_ ?_
    refine End.seq ?_
    refine WC.condT rfl ?_
    refine WC.seq ?_
    refine WC.region ?_
    refine WL.p rfl rfl rfl (P.assign rfl) ?_
    refine WL.nil_ ?_
    refine End.seq ?_
    refine WC.ret ?_
    refine End.thenR ?_
    refine End.ret1 rfl rfl ?_
    exact fun w' hs' => RetV.of (by rw [ordB, if_neg (by simpa using hs9)]) hs'
  ·
    refine WL.p rfl rfl rfl (P.move rfl) ?_
    refine WL.callv (ent_of Tryz.func106 rfl rfl) rfl rfl rfl (fun w hs => pattern_any b w (hg.st hs)) ?_
    refine WL.p rfl rfl rfl (P.not_ rfl) ?_
    refine WL.p rfl rfl rfl (P.pickF rfl rfl) ?_
    refine WL.nil_ ?_
    refine End.seq ?_
    refine WC.cond rfl (fun hc13 => ?_) (fun hc13 => ?_)
    ·
      refine WC.seq ?_
      refine WC.region ?_
      refine WL.p rfl rfl rfl (P.assign rfl) ?_
      refine WL.nil_ ?_
      refine End.seq ?_
      refine WC.ret ?_
      refine End.thenR ?_
      refine End.ret1 rfl rfl ?_
      exact fun w' hs' => RetV.of (by rw [ordB, if_neg (show ¬ patB b = true by simpa using hc13)]; split <;> rfl) hs'
    ·
      have ha : patB a = true := by simpa using hs9
      have hb : patB b = true := by simpa using hc13
      refine WC.skip ?_
      refine End.seq ?_
      refine WC.seq ?_
      refine WC.region ?_
      refine WL.p rfl rfl rfl (P.assign rfl) ?_
      refine WL.nil_ ?_
      refine End.seq ?_
      refine WC.seq ?_
      refine WC.region ?_
      refine WL.p rfl rfl rfl (P.move rfl) ?_
      refine WL.p rfl rfl rfl (P.move rfl) ?_
      refine WL.callc (ent_of Tryz.func241 rfl rfl) rfl rfl rfl rfl (fun w hs => ordK_any a w (hg.st hs) (allB_size ha).2) ?_
      refine WL.p rfl rfl rfl (P.move rfl) ?_
      refine WL.p rfl rfl rfl (P.move rfl) ?_
      refine WL.callc (ent_of Tryz.func241 rfl rfl) rfl rfl rfl rfl (fun w hs => ordK_any b w (hg.st hs) (allB_size hb).2) ?_
      refine WL.callv (ent_of Tryz.func181 rfl rfl) rfl rfl rfl (fun w hs => compare_any _ _ w) ?_
      refine WL.p rfl rfl rfl (P.assign rfl) ?_
      refine WL.nil_ ?_
      refine End.seq ?_
      refine WC.ret ?_
      refine End.ret1 rfl rfl ?_
      exact fun w' hs' => RetV.of (by rw [ordB, if_pos ha, if_pos hb]) hs'

/-- The qualifiers of a name; the first ones. -/
def qualsB (s : ByteArray) : List ByteArray := if nameB s = true then parts s else []
def firstB (s : ByteArray) : ByteArray := joinD ((qualsB s).take 1)
def qIt (b : Nat) (s : ByteArray) : It := if nameB s = true then .blk b 9 ((parts s).map Value.string).toArray else .nil
def qVal (b : Nat) (s : ByteArray) : Value := if nameB s = true then .slice (some ⟨b, 0, none⟩) (parts s).length (parts s).length else vnil
theorem q_no {b : Nat} {s : ByteArray} (hn : nameB s = false) : qVal b s = vnil ∧ qIt b s = .nil := by unfold qVal qIt; rw [hn]; exact ⟨rfl, rfl⟩
theorem q_yes {b : Nat} {s : ByteArray} (hn : nameB s = true) : qVal b s = .slice (some ⟨b, 0, none⟩) (parts s).length (parts s).length ∧ qIt b s = .blk b 9 ((parts s).map Value.string).toArray := by unfold qVal qIt; rw [hn]; exact ⟨rfl, rfl⟩

set_option maxRecDepth 100000 in
theorem quals_any (s : ByteArray) (w : World) (hg : Good w) :
    Calls Tryz.prog 167 #[.string s] w (Ret w (fun _ : Nat => True) (fun b => qVal b s) (fun b => [qIt b s])) := by
  refine enter Tryz.func167 rfl Tryz.ntmps167 rfl ?_
  refine WC.seq ?_
  refine WC.region ?_
  refine WL.p rfl rfl rfl (P.assign rfl) ?_
  refine WL.nil_ ?_
  refine End.seq ?_
  refine WC.seq ?_
  refine WC.seq ?_
  refine WC.region ?_
  refine WL.p rfl rfl rfl (P.move rfl) ?_
  refine WL.callv (ent_of Tryz.func76 rfl rfl) rfl rfl rfl (fun w hs => nameValid_any s w (hg.st hs)) ?_
  refine WL.p rfl rfl rfl (P.not_ rfl) ?_
  refine WL.nil_ ?_
  refine End.seq ?_
  refine WC.cond rfl (fun hc5 => ?_) (fun hc5 => ?_)
  ·
    have hn : nameB s = false := by simpa using hc5
    refine WC.seq ?_
    refine WC.region ?_
    refine WL.p rfl rfl rfl (P.assign rfl) ?_
    refine WL.nil_ ?_
    refine End.seq ?_
    refine WC.ret ?_
    refine End.thenR ?_
    refine End.ret1 rfl rfl ?_
    exact fun w' hs' => ⟨0, trivial, congrArg Ending.returned (q_no hn).1.symm, by show St _ [qIt 0 s] _; rw [(q_no hn).2]; exact hs'.nil⟩
  ·
    have hn : nameB s = true := by simpa using hc5
    refine WC.skip ?_
    refine End.seq ?_
    refine WC.seq ?_
    refine WC.region ?_
    refine WL.p rfl rfl rfl (P.move rfl) ?_
    refine WL.callx (ent_of Tryz.func107 rfl rfl) rfl rfl rfl (fun w hs => split_any s w (hg.st hs) (by have := name_size hn; omega)) (fun g1 _ => ?_)
    refine WL.p rfl rfl rfl (P.assign rfl) ?_
    refine WL.nil_ ?_
    refine End.seq ?_
    refine WC.ret ?_
    refine End.ret1 rfl rfl ?_
    exact fun w' hs' => ⟨g1, trivial, congrArg Ending.returned (q_yes hn).1.symm, by show St _ [qIt g1 s] _; rw [(q_yes hn).2]; exact hs'⟩

theorem quals_yes (s : ByteArray) (w : World) (hg : Good w) (hn : nameB s = true) : Calls Tryz.prog 167 #[.string s] w (Ret w (fun _ : Nat => True) (fun b => .slice (some ⟨b, 0, none⟩) (parts s).length (parts s).length) (fun b => [.blk b 9 ((parts s).map Value.string).toArray])) := by
  refine (quals_any s w hg).mono fun en w' h => ?_
  obtain ⟨b, _, h1, h2⟩ := h
  exact ⟨b, trivial, h1.trans (congrArg Ending.returned (q_yes hn).1), by have h3 : St w [qIt b s] w' := h2; rw [(q_yes hn).2] at h3; exact h3⟩
theorem parts_pos (s : ByteArray) : 1 ≤ (parts s).length := by rw [parts_length]; omega

set_option maxRecDepth 100000 in
theorem firstQ_any (s : ByteArray) (w : World) (hg : Good w) (hn : nameB s = true) :
    Calls Tryz.prog 78 #[.int .i64 1, .string s] w (RetV w (.string (firstB s))) := by
  have lp := parts_le s
  have zn := name_size hn
  have pp := parts_pos s
  refine enter Tryz.func78 rfl Tryz.ntmps78 rfl ?_
  refine WC.seq ?_
  refine WC.region ?_
  refine WL.p rfl rfl rfl (P.assign rfl) ?_
  refine WL.nil_ ?_
  refine End.seq ?_
  refine WC.seq ?_
  refine WC.region ?_
  refine WL.p rfl rfl rfl (P.move rfl) ?_
  refine WL.callx (ent_of Tryz.func167 rfl rfl) rfl rfl rfl (fun w hs => quals_yes s w (hg.st hs) hn) (fun g1 _ => ?_)
  refine WL.p rfl rfl rfl (P.assign rfl) ?_
  refine WL.nil_ ?_
  refine End.seq ?_
  refine WC.seq ?_
  refine WC.region ?_
  refine WL.p rfl rfl rfl (P.move rfl) ?_
  refine WL.p rfl rfl rfl (P.move rfl) ?_
  refine WL.p rfl rfl rfl (P.max2 rfl rfl) ?_
  refine WL.p rfl rfl rfl (P.move rfl) ?_
  refine WL.p rfl rfl rfl (P.lenR Tryz.underlying48 rfl) ?_
  refine WL.p rfl rfl rfl (P.min2 rfl rfl) ?_
  refine WL.p rfl rfl rfl (P.cutH Tryz.underlying48 Tryz.sizeOf9 rfl rfl (by omega) (by omega)) ?_
  refine WL.is 14 rfl (show _ = Value.slice (some ⟨g1, 0, none⟩) ((parts s).take 1).length (parts s).length by rw [List.length_take, Nat.min_eq_left pp]; congr 1; omega) ?_
  refine WL.callv (ent_of Tryz.func134 rfl rfl) rfl rfl rfl (fun w hs => join_sl _ _ ((parts s).take 1) w ((sl_row hs (j := 0) rfl (by omega)).take 1) (by simp; omega) (by simp; omega) (fun x hx => by have := parts_el (List.mem_of_mem_take hx); omega)) ?_
  refine WL.p rfl rfl rfl (P.assign rfl) ?_
  refine WL.nil_ ?_
  refine End.seq ?_
  refine WC.ret ?_
  refine End.ret1 rfl rfl ?_
  exact fun w' hs' => RetV.of (by rw [firstB, qualsB, if_pos hn]) hs'

end Go.Proofs.YtlkkiimmangplaaGreatDoor

/- The example of the chapters on batch. -/
namespace Go.Proofs.YtlkkiimmangplaaGreatDoor
open Go.RowKit
set_option linter.unusedVariables false
set_option linter.unusedSimpArgs false

def pdB : ByteArray := ⟨#[80, 65, 89, 46, 68, 65, 89]⟩
def pgB : ByteArray := ⟨#[80, 65, 89, 46, 68, 65, 89, 46, 71, 48, 48, 48, 51, 86, 48, 48]⟩
theorem pd_group : groupB pdB = true := by kernel_rfl
theorem itoa3 : itoaB 3 = ⟨#[51]⟩ := by kernel_rfl
theorem itoa3_any (w : World) (hg : Good w) : Calls Tryz.prog 130 #[.int .i64 3] w (RetV w (.string ⟨#[51]⟩)) := by
  have h := itoa_any 3 w hg (by decide)
  rw [itoa3] at h
  exact h
theorem groupPd_any (w : World) (hg : Good w) : Calls Tryz.prog 187 #[.string pdB] w (RetV w (.bool true)) := by
  have h := isGroup_any pdB w hg
  rw [pd_group] at h
  exact h
theorem rep3 : (⟨(Lib.repeatL (⟨#[48]⟩ : ByteArray).data.toList 3).toArray⟩ : ByteArray) = ⟨#[48, 48, 48]⟩ := by kernel_rfl
theorem rep3_any (w : World) : Calls Tryz.prog 61 #[.string ⟨#[48]⟩, .int .i64 3] w (RetV w (.string ⟨#[48, 48, 48]⟩)) := by
  have h := Tryz.strings_Repeat ⟨#[48]⟩ 3 w (by decide) (by decide)
  rw [rep3] at h
  exact h.mono fun e w' ⟨h1, h2⟩ => ⟨h1, ⟨h2, fun _ _ h => by simp at h, fun _ _ _ _ h => by simp at h⟩⟩
theorem pg_text : pdB ++ ⟨#[46, 71]⟩ ++ ⟨#[48, 48, 48]⟩ ++ ⟨#[51]⟩ ++ ⟨#[86, 48, 48]⟩ = pgB := by kernel_rfl
theorem pg_match : matchB ⟨#[80, 65, 89, 46, 42, 42]⟩ pgB = true := by kernel_rfl
theorem pay_name : nameB ⟨#[112, 97, 121]⟩ = false := by kernel_rfl
theorem matchPg_any (w : World) (hg : Good w) : Calls Tryz.prog 40 #[.string ⟨#[80, 65, 89, 46, 42, 42]⟩, .string pgB] w (RetV w (.bool true)) := by
  have h := match_any ⟨#[80, 65, 89, 46, 42, 42]⟩ pgB w hg
  rw [pg_match] at h
  exact h
theorem namePay_any (w : World) (hg : Good w) : Calls Tryz.prog 76 #[.string ⟨#[112, 97, 121]⟩] w (RetV w (.bool false)) := by
  have h := nameValid_any ⟨#[112, 97, 121]⟩ w hg
  rw [pay_name] at h
  exact h

set_option maxRecDepth 100000 in
theorem genPd_any  (w : World) (hg : Good w) :
    Calls Tryz.prog 96 #[.string pdB, .int .i64 3] w (RetV w (.tuple #[.string pgB, .int .i64 0])) := by
  refine enter Tryz.func96 rfl Tryz.ntmps96 rfl ?_
  refine WC.seq ?_
  refine WC.region ?_
  refine WL.p rfl rfl rfl (P.assign rfl) ?_
  refine WL.p rfl rfl rfl (P.assign rfl) ?_
  refine WL.nil_ ?_
  refine End.seq ?_
  refine WC.seq ?_
  refine WC.seq ?_
  refine WC.region ?_
  refine WL.p rfl rfl rfl (P.move rfl) ?_
  refine WL.callv (ent_of Tryz.func187 rfl rfl) rfl rfl rfl (fun w hs => groupPd_any w (hg.st hs)) ?_
  refine WL.p rfl rfl rfl (P.not_ rfl) ?_
  refine WL.nil_ ?_
  refine End.seq ?_
  refine WC.condF rfl ?_
  refine WC.skip ?_
  refine End.seq ?_
  refine WC.seq ?_
  refine WC.seq ?_
  refine WC.region ?_
  refine WL.p rfl rfl rfl (P.move rfl) ?_
  refine WL.p rfl rfl rfl (P.cmp rfl rfl rfl) ?_
  refine WL.p rfl rfl rfl (P.move rfl) ?_
  refine WL.p rfl rfl rfl (P.move rfl) ?_
  refine WL.p rfl rfl rfl (P.cmp rfl rfl rfl) ?_
  refine WL.p rfl rfl rfl (P.pickF rfl rfl) ?_
  refine WL.nil_ ?_
  refine End.seq ?_
  refine WC.condF rfl ?_
  refine WC.skip ?_
  refine End.seq ?_
  refine WC.seq ?_
  refine WC.region ?_
  refine WL.p rfl rfl rfl (P.move rfl) ?_
  refine WL.callv (ent_of Tryz.func130 rfl rfl) rfl rfl rfl (fun w hs => itoa3_any w (hg.st hs)) ?_
  refine WL.p rfl rfl rfl (P.assign rfl) ?_
  refine WL.nil_ ?_
  refine End.seq ?_
  refine WC.seq ?_
  refine WC.region ?_
  refine WL.p rfl rfl rfl (P.move rfl) ?_
  refine WL.p rfl rfl rfl (P.cat rfl rfl (by decide)) ?_
  refine WL.p rfl rfl rfl (P.move rfl) ?_
  refine WL.p rfl rfl rfl (P.lenS Tryz.underlying9 rfl) ?_
  refine WL.p rfl rfl rfl (P.ari64 rfl rfl rfl (by decide)) ?_
  refine WL.callv (ent_of Tryz.func61 rfl rfl) rfl rfl rfl (fun w hs => rep3_any w) ?_
  refine WL.p rfl rfl rfl (P.cat rfl rfl (by decide)) ?_
  refine WL.p rfl rfl rfl (P.move rfl) ?_
  refine WL.p rfl rfl rfl (P.cat rfl rfl (by decide)) ?_
  refine WL.p rfl rfl rfl (P.cat rfl rfl (by decide)) ?_
  refine WL.p rfl rfl rfl (P.assign rfl) ?_
  refine WL.p rfl rfl rfl (P.assign rfl) ?_
  refine WL.nil_ ?_
  refine End.seq ?_
  refine WC.ret ?_
  refine End.ret2 rfl rfl rfl ?_
  exact fun w' hs' => RetV.of (by rw [← pg_text]) hs'

set_option maxRecDepth 100000 in
theorem awakeBatch_any  (w : World) (hg : Good w) :
    Calls Tryz.prog 37 #[] w (RetV w (.bool true)) := by
  refine enter Tryz.func37 rfl Tryz.ntmps37 rfl ?_
  refine WC.seq ?_
  refine WC.region ?_
  refine WL.p rfl rfl rfl (P.assign rfl) ?_
  refine WL.nil_ ?_
  refine End.seq ?_
  refine WC.seq ?_
  refine WC.region ?_
  refine WL.callv (ent_of Tryz.func96 rfl rfl) rfl rfl rfl (fun w hs => genPd_any w (hg.st hs)) ?_
  refine WL.p rfl rfl rfl (P.move rfl) ?_
  refine WL.p rfl rfl rfl (P.extract rfl rfl) ?_
  refine WL.p rfl rfl rfl (P.extract rfl rfl) ?_
  refine WL.p rfl rfl rfl (P.assign rfl) ?_
  refine WL.p rfl rfl rfl (P.assign rfl) ?_
  refine WL.nil_ ?_
  refine End.seq ?_
  refine WC.seq ?_
  refine WC.region ?_
  refine WL.p rfl rfl rfl (P.move rfl) ?_
  refine WL.p rfl rfl rfl (P.cmp rfl rfl rfl) ?_
  refine WL.p rfl rfl rfl (P.move rfl) ?_
  refine WL.p rfl rfl rfl (P.move rfl) ?_
  refine WL.p rfl rfl rfl (P.cmps rfl rfl (cmpS_eq rfl)) ?_
  refine WL.p rfl rfl rfl (P.pickT rfl rfl) ?_
  refine WL.p rfl rfl rfl (P.move rfl) ?_
  refine WL.p rfl rfl rfl (P.move rfl) ?_
  refine WL.callv (ent_of Tryz.func40 rfl rfl) rfl rfl rfl (fun w hs => matchPg_any w (hg.st hs)) ?_
  refine WL.p rfl rfl rfl (P.pickT rfl rfl) ?_
  refine WL.p rfl rfl rfl (P.move rfl) ?_
  refine WL.callv (ent_of Tryz.func76 rfl rfl) rfl rfl rfl (fun w hs => namePay_any w (hg.st hs)) ?_
  refine WL.p rfl rfl rfl (P.not_ rfl) ?_
  refine WL.p rfl rfl rfl (P.pickT rfl rfl) ?_
  refine WL.p rfl rfl rfl (P.assign rfl) ?_
  refine WL.nil_ ?_
  refine End.seq ?_
  refine WC.ret ?_
  refine End.ret1 rfl rfl ?_
  exact fun w' hs' => RetV.of rfl hs'

end Go.Proofs.YtlkkiimmangplaaGreatDoor

/- Slices compared with nil; a new block of structs as a row; lists of entries that came in. -/
namespace Go.Proofs.YtlkkiimmangplaaGreatDoor
open Go.RowKit
set_option linter.unusedVariables false
set_option linter.unusedSimpArgs false
section
variable {w0 : World} {n : Nat} {ops : Array Oper} {Q : Exit → Act → World → Prop} {o : Oper} {rest : List Oper} {ρ : Env} {H : List It}
variable {d : Nat} {ty t t' : TypeId} {pos : String} {af : Array Edge} {g : Option (Nat × Bool)} {x y z : Operand} {v u : Value}
theorem P.eqSl {e : TypeId} {A : Option Addr} {m c : Nat} (hu : Tryz.prog.underlying t = some (.slice e)) (hx : ev ρ x = some (.slice A m c)) (hy : ev ρ y = some (.slice none 0 0)) : Pure w0 n ρ H ⟨some d, .binOp .eql t x y t', ty, pos, af, g⟩ (.bool A.isNone) :=
  fun a w hf _ => by
    have h := run_equal_slice_nil (P := Tryz.prog) w t e A m c hu
    simp [execOp, hf.eval hx, hf.eval hy, eqGuard, binOp, Sem.run_bind, h]
theorem St.asRowN {w0 w : World} {H : List It} (hs : St w0 H w) {j e b m sz : Nat} {cs : Array Value} (hj : H[j]? = some (.blk b e cs)) (hm : cs.size = m * sz) (hl : m ≤ maxLen) : St w0 (H.set j (.row e sz (.slice (some ⟨b, 0, none⟩) m m) m cs.toList)) w := by
  have hb := hs.ok j _ hj
  refine hs.swap j hj (fun q hq => .inl hq) ⟨by simp [hm], .inr ⟨b, m, cs, rfl, hb.1, hb.2, Nat.le_refl _, hl, by omega, List.take_of_length_le (by simp [hm])⟩⟩ hs.below (fun q _ _ => rfl)
theorem WL.asRowN {l : List Oper} (j : Nat) {e b m sz : Nat} {cs : Array Value} (hj : H[j]? = some (.blk b e cs)) (hm : cs.size = m * sz) (hl : m ≤ maxLen) (k : WL w0 n ops Q l ρ (H.set j (.row e sz (.slice (some ⟨b, 0, none⟩) m m) m cs.toList))) : WL w0 n ops Q l ρ H := fun a w hf hs => k a w hf (hs.asRowN hj hm hl)
end
/-- An own row of structs, read. -/
theorem sl_rowN {α : Type} {enc : α → List Value} {sz : Nat} {w0 w : World} {H : List It} {j e n c : Nat} {A : Option Addr} {xs : List α} (hs : St w0 H w) (hj : H[j]? = some (.row e sz (.slice A n c) n (xs.flatMap enc))) (hn : n = xs.length) (hsz : ∀ x ∈ xs, (enc x).length = sz) (hl : xs.length ≤ 100000) : Sl enc sz w A xs := by
  subst hn
  refine ⟨by omega, fun hp => ?_⟩
  have hr := hs.ok j _ hj
  rcases hr.2 with ⟨h1, h2⟩ | ⟨g, cap, cur, hv, _, hg, _⟩
  · omega
  · cases hv
    refine ⟨g, 0, rfl, fun k x hx i u hu => ?_⟩
    have hown : w.ownsRow w0.heap.size e sz (.slice (some ⟨g, 0, none⟩) xs.length c) xs.length (xs.flatMap enc) := hr
    have key : ∀ (l : List α) (k : Nat), (∀ x ∈ l, (enc x).length = sz) → l[k]? = some x → (l.flatMap enc)[k * sz + i]? = some u := by
      intro l
      induction l with
      | nil => intro k _ h; cases h
      | cons y r ih =>
        intro k hz h
        have hy := hz y List.mem_cons_self
        have hi : i < (enc x).length := (List.getElem?_eq_some_iff.1 hu).1
        cases k with
        | zero =>
          simp at h
          subst h
          rw [List.flatMap_cons, Nat.zero_mul, Nat.zero_add, List.getElem?_append_left hi]
          exact hu
        | succ k =>
          rw [List.flatMap_cons, List.getElem?_append_right (by rw [hy, Nat.succ_mul]; omega), hy, show (k + 1) * sz + i - sz = k * sz + i by rw [Nat.succ_mul]; omega]
          exact ih k (fun z hz' => hz z (List.mem_cons_of_mem _ hz')) (by simpa using h)
    have := hown.cells (g := g) rfl (k * sz + i) u (key xs k hsz hx)
    rw [add0, Nat.zero_add] at this
    simpa using this
theorem slG_row {w0 w : World} {H : List It} {j n c : Nat} {A : Option Addr} {gs : List Gr} (hs : St w0 H w) (hj : H[j]? = some (.row 51 3 (.slice A n c) n (gcells gs))) (hn : n = gs.length) (hl : gs.length ≤ 100000) : Sl Gr.cells 3 w A gs := sl_rowN hs hj hn (fun _ _ => rfl) hl
/-- What a slice that came in holds, cell by cell. -/
theorem Sl.flat {α : Type} {enc : α → List Value} {sz : Nat} {w : World} {b off : Nat} {xs : List α} (h : Sl enc sz w (some ⟨b, off, none⟩) xs) (hsz : ∀ x ∈ xs, (enc x).length = sz) (h0 : 0 < sz) : ∀ (j : Nat) u, (xs.flatMap enc)[j]? = some u → w.cell? ((⟨b, off, none⟩ : Addr).add j) = some u := by
  intro j u hj
  have key : ∀ (l : List α) (j : Nat), (∀ x ∈ l, (enc x).length = sz) → (l.flatMap enc)[j]? = some u → ∃ k x i, l[k]? = some x ∧ (enc x)[i]? = some u ∧ j = k * sz + i := by
    intro l
    induction l with
    | nil => intro j _ h; cases h
    | cons y r ih =>
      intro j hz h
      have hy := hz y List.mem_cons_self
      rw [List.flatMap_cons] at h
      rcases Nat.lt_or_ge j sz with hlt | hge
      · rw [List.getElem?_append_left (by omega)] at h
        exact ⟨0, y, j, rfl, h, by omega⟩
      · rw [List.getElem?_append_right (by omega), hy] at h
        obtain ⟨k, x, i, h1, h2, h3⟩ := ih (j - sz) (fun z hz' => hz z (List.mem_cons_of_mem _ hz')) h
        exact ⟨k + 1, x, i, by simpa using h1, h2, by rw [Nat.succ_mul]; omega⟩
  obtain ⟨k, x, i, h1, h2, rfl⟩ := key xs j hsz hj
  obtain ⟨b', o', e, hc⟩ := h.at_ (by have := (List.getElem?_eq_some_iff.1 h1).1; omega)
  cases e
  have := hc k x h1 i u h2
  rw [Int.toNat_natCast] at this
  rw [add0, ← Nat.add_assoc]
  exact this
end Go.Proofs.YtlkkiimmangplaaGreatDoor

/- Access in plain words. -/
namespace Go.Proofs.YtlkkiimmangplaaGreatDoor
open Go.RowKit
set_option linter.unusedVariables false
set_option linter.unusedSimpArgs false
/-- Two lists of one length, place by place. -/
inductive All2 {α β : Type} (R : α → β → Prop) : List α → List β → Prop
  | nil : All2 R [] []
  | cons {x : α} {y : β} {xs : List α} {ys : List β} (h : R x y) (t : All2 R xs ys) : All2 R (x :: xs) (y :: ys)
/-- An entry with the values of its slices. -/
abbrev EV := E × Value × Value
section
variable (mat : ByteArray → ByteArray → Bool) (ord : ByteArray → ByteArray → Int)
def bestOn (name : ByteArray) (b : Option EV) (x : EV) : Bool := decide (x.1.kind = 4) && (validE x.1 && (mat x.1.name name && (match b with | none => true | some y => decide (ord x.1.name y.1.name < 0))))
def bestStep (name : ByteArray) (b : Option EV) (x : EV) : Option EV := if bestOn mat ord name b x = true then some x else b
def bestX (name : ByteArray) (xs : List EV) : Option EV := xs.foldl (bestStep mat ord name) none
theorem best_skip {name : ByteArray} {x : EV} (h : mat x.1.name name = false) (xs : List EV) : bestX mat ord name (x :: xs) = bestX mat ord name xs := by
  have : bestStep mat ord name none x = none := by unfold bestStep bestOn; rw [h]; simp
  unfold bestX
  rw [List.foldl_cons, this]
def granted (p : Gr → Bool) (s : Int × Bool) (g : Gr) : Int × Bool := if p g = true then (if s.1 < g.level then g.level else s.1, true) else s
def grantedX (p : Gr → Bool) (gs : List Gr) : Int × Bool := gs.foldl (granted p) (0, false)
def userG (user : ByteArray) (g : Gr) : Bool := !g.group && decide (g.who = user)
def groupG (groups : List ByteArray) (g : Gr) : Bool := g.group && groups.any (fun x => decide (x = g.who))
def levelOf (e : E) (user : ByteArray) (groups : List ByteArray) : Int :=
  if !decide (user = bempty) && decide (e.owner = user) then 3 else
  if (grantedX (userG user) e.grants).2 = true then (grantedX (userG user) e.grants).1 else
  if (grantedX (groupG groups) e.grants).2 = true then (grantedX (groupG groups) e.grants).1 else e.level
def levelX (first : ByteArray) (xs : List EV) (user : ByteArray) (groups : List ByteArray) (name : ByteArray) : Int :=
  if nameB name = true then (if first = user then 3 else match bestX mat ord name xs with | none => 0 | some x => levelOf x.1 user groups) else 0
theorem level_skip {first name user : ByteArray} {groups : List ByteArray} {x : EV} (h : mat x.1.name name = false) (xs : List EV) : levelX mat ord first (x :: xs) user groups name = levelX mat ord first xs user groups name := by
  unfold levelX
  rw [best_skip mat ord h]
/-! ### What rises -/
def GrUp (g g' : Gr) : Prop := g'.who = g.who ∧ g'.group = g.group ∧ g.level ≤ g'.level
structure EUp (e e' : E) : Prop where
  kind : e'.kind = e.kind
  name : e'.name = e.name
  owner : e'.owner = e.owner
  valid : validE e' = validE e
  level : e.level ≤ e'.level
  grants : All2 GrUp e.grants e'.grants
theorem best_up {name : ByteArray} : ∀ {xs ys : List EV} {b c : Option EV}, All2 (fun x y => EUp x.1 y.1) xs ys → Option.Rel (fun x y : EV => EUp x.1 y.1) b c →
    Option.Rel (fun x y : EV => EUp x.1 y.1) (xs.foldl (bestStep mat ord name) b) (ys.foldl (bestStep mat ord name) c)
  | [], _, b, c, h, hb => by cases h; exact hb
  | x :: xs, _, b, c, h, hb => by
    cases h with
    | cons h1 h2 =>
      rename_i y ys
      rw [List.foldl_cons, List.foldl_cons]
      refine best_up h2 ?_
      have e : bestOn mat ord name c y = bestOn mat ord name b x := by
        unfold bestOn
        rw [h1.kind, h1.valid, h1.name]
        cases hb with
        | none => rfl
        | some hb => simp only [hb.name]
      unfold bestStep
      rw [e]
      split
      · exact .some h1
      · exact hb
theorem granted_up {p : Gr → Bool} (hp : ∀ g g', GrUp g g' → p g' = p g) : ∀ {l l' : List Gr} {s s' : Int × Bool}, All2 GrUp l l' → s'.2 = s.2 → s.1 ≤ s'.1 → (l'.foldl (granted p) s').2 = (l.foldl (granted p) s).2 ∧ (l.foldl (granted p) s).1 ≤ (l'.foldl (granted p) s').1
  | [], _, s, s', h, h2, h1 => by cases h; exact ⟨h2, h1⟩
  | g :: l, _, s, s', h, h2, h1 => by
    cases h with
    | cons hg hl =>
      rename_i g' l'
      have hl1 := hg.2.2
      rw [List.foldl_cons, List.foldl_cons]
      refine granted_up hp hl ?_ ?_
      · unfold granted
        rw [hp g g' hg]
        split
        · rfl
        · exact h2
      · unfold granted
        rw [hp g g' hg]
        split
        · simp only
          split <;> split <;> omega
        · exact h1
theorem levelOf_up {e e' : E} (h : EUp e e') (user : ByteArray) (groups : List ByteArray) : levelOf e user groups ≤ levelOf e' user groups := by
  have h1 := granted_up (p := userG user) (fun g g' hg => by unfold userG; rw [hg.1, hg.2.1]) h.grants (s := (0, false)) (s' := (0, false)) rfl (Int.le_refl _)
  have h2 := granted_up (p := groupG groups) (fun g g' hg => by unfold groupG; rw [hg.1, hg.2.1]) h.grants (s := (0, false)) (s' := (0, false)) rfl (Int.le_refl _)
  unfold levelOf grantedX
  rw [h.owner, h1.1, h2.1]
  split
  · exact Int.le_refl _
  · split
    · exact h1.2
    · split
      · exact h2.2
      · exact h.level
theorem level_up {first name user : ByteArray} {groups : List ByteArray} {xs ys : List EV} (h : All2 (fun x y : EV => EUp x.1 y.1) xs ys) : levelX mat ord first xs user groups name ≤ levelX mat ord first ys user groups name := by
  unfold levelX
  have hb := best_up mat ord (name := name) h (b := none) (c := none) .none
  have hb' : Option.Rel (fun x y : EV => EUp x.1 y.1) (bestX mat ord name xs) (bestX mat ord name ys) := hb
  split
  · split
    · exact Int.le_refl _
    · revert hb'
      generalize bestX mat ord name xs = a
      generalize bestX mat ord name ys = b
      intro hb'
      cases hb' with
      | none => exact Int.le_refl _
      | some h' => exact levelOf_up h' user groups
  · exact Int.le_refl _
end
end Go.Proofs.YtlkkiimmangplaaGreatDoor
namespace Go.Proofs.YtlkkiimmangplaaGreatDoor
/-! ### Rising keeps what is valid -/
def upL (a b : Int) : Prop := a ≤ b ∧ (inB 0 3 [b] = inB 0 3 [a])
def GrRise (g g' : Gr) : Prop := g'.who = g.who ∧ g'.group = g.group ∧ upL g.level g'.level
theorem grsOK_rise : ∀ {l l' : List Gr} {seen : List (ByteArray × Bool)}, All2 GrRise l l' → grsOK l' seen = grsOK l seen
  | [], _, seen, h => by cases h; rfl
  | g :: l, _, seen, h => by
    cases h with
    | cons hg hl =>
      rename_i g' l'
      rw [grsOK, grsOK, hg.1, hg.2.2.2, show grKey g' = grKey g by unfold grKey; rw [hg.1, hg.2.1], grsOK_rise hl]
theorem all2_len {α β : Type} {R : α → β → Prop} : ∀ {l : List α} {l' : List β}, All2 R l l' → l'.length = l.length
  | [], _, h => by cases h; rfl
  | x :: l, _, h => by
    cases h with
    | cons h1 h2 => rw [List.length_cons, List.length_cons, all2_len h2]
open Go.RowKit in
theorem valid_rise {e : E} {lv : Int} {gs : List Gr} (hk : e.kind = 4) (hl : upL e.level lv) (hg : All2 GrRise e.grants gs) : validE { e with level := lv, grants := gs } = validE e := by
  have hk' : ({ e with level := lv, grants := gs } : E).kind = 4 := hk
  have e1 : validE e = (kinds 4).valid e := by unfold validE kindAt; rw [hk]; rfl
  have e2 : validE { e with level := lv, grants := gs } = (kinds 4).valid { e with level := lv, grants := gs } := by unfold validE kindAt; rw [hk']; rfl
  rw [e1, e2, valid_uses (by decide) hk, valid_uses (by decide) hk']
  have e3 : (kinds 4).ok { e with level := lv, grants := gs } = (kinds 4).ok e := by
    show profOK _ = profOK e
    unfold profOK
    rw [grsOK_rise hg, all2_len hg, hl.2]
  rw [e3]
  have e4 : (({ e with level := lv, grants := gs } : E).uses = { e with level := lv, grants := gs }) ↔ (e.uses = e) := by
    rw [uses4 hk, uses4 hk']
    cases e
    simp [E.bare0]
  rw [decide_eq_decide.2 e4]
theorem eup_rise {e : E} {lv : Int} {gs : List Gr} (hk : e.kind = 4) (hl : upL e.level lv) (hg : All2 GrRise e.grants gs) : EUp e { e with level := lv, grants := gs } where
  kind := rfl
  name := rfl
  owner := rfl
  valid := valid_rise hk hl hg
  level := hl.1
  grants := by
    have key : ∀ {l l' : List Gr}, All2 GrRise l l' → All2 GrUp l l' := by
      intro l l' h
      induction h with
      | nil => exact .nil
      | cons h _ ih => exact .cons ⟨h.1, h.2.1, h.2.2.1⟩ ih
    exact key hg
theorem GrUp.refl (g : Gr) : GrUp g g := ⟨rfl, rfl, Int.le_refl _⟩
theorem All2.refl {α : Type} {R : α → α → Prop} (h : ∀ x, R x x) : ∀ l : List α, All2 R l l
  | [] => .nil
  | x :: l => .cons (h x) (All2.refl h l)
theorem EUp.refl (e : E) : EUp e e := ⟨rfl, rfl, rfl, rfl, Int.le_refl _, All2.refl GrUp.refl _⟩
theorem All2.snoc {α β : Type} {R : α → β → Prop} {x : α} {y : β} : ∀ {l : List α} {l' : List β}, All2 R l l' → R x y → All2 R (l ++ [x]) (l' ++ [y])
  | [], _, h, hx => by cases h; exact .cons hx .nil
  | a :: l, _, h, hx => by
    cases h with
    | cons h1 h2 => exact .cons h1 (All2.snoc h2 hx)
/-- How TopAccess raises a level. -/
def riseP (rise : List Int) (level n : Int) : Int :=
  if rise.length = 0 ∨ level < 0 ∨ 3 < level then level else if 3 < level + (rise.getD (n % rise.length).toNat 0) % 4 then 3 else level + (rise.getD (n % rise.length).toNat 0) % 4
theorem rise_up {rise : List Int} (hr : ∀ x ∈ rise, 0 ≤ x) (level n : Int) : upL level (riseP rise level n) := by
  have h0 : 0 ≤ (rise.getD (n % rise.length).toNat 0) % 4 := by omega
  unfold riseP upL
  generalize rise.getD (n % rise.length).toNat 0 = g at *
  split
  · exact ⟨Int.le_refl _, rfl⟩
  · rename_i h
    have hin : inB 0 3 [level] = true := by simp [inB]; omega
    split
    · refine ⟨by omega, ?_⟩
      rw [hin]; decide
    · refine ⟨by omega, ?_⟩
      rw [hin]
      simp [inB]; omega
end Go.Proofs.YtlkkiimmangplaaGreatDoor

/- The profile of a data set. -/
namespace Go.Proofs.YtlkkiimmangplaaGreatDoor
open Go.RowKit
set_option linter.unusedVariables false
set_option linter.unusedSimpArgs false

theorem slG_flat {w : World} {a : Addr} {gs : List Gr} (hr : Sl Gr.cells 3 w (some a) gs) : ∀ (j : Nat) u, (gcells gs)[j]? = some u → w.cell? (a.add j) = some u := by
  intro j u h
  have hp : 0 < gs.length := by
    cases gs with
    | nil => cases h
    | cons _ _ => simp
  obtain ⟨b, off, e, _⟩ := hr.at_ hp
  cases e
  exact hr.flat (fun _ _ => rfl) (by decide) j u h
theorem gcells_one (gs : List Gr) : ∀ u ∈ gcells gs, u.oneCell' = true := by
  intro u hu
  obtain ⟨g, _, hg⟩ := List.mem_flatMap.1 (show u ∈ gs.flatMap Gr.cells from hu)
  simp [Gr.cells] at hg
  rcases hg with rfl | rfl | rfl <;> rfl
/-- A slice of grants, read from now on. -/
def GrS (gs : List Gr) (p : Value × It) : Prop := p.1.oneCell' = true ∧ ∀ (w0 w : World) (H : List It) (j : Nat), St w0 H w → H[j]? = some p.2 → ∃ A c, p.1 = .slice A gs.length c ∧ gs.length ≤ c ∧ Sl Gr.cells 3 w A gs
theorem GrS.none : GrS [] (vnil, .nil) := ⟨rfl, fun _ _ _ _ _ _ => ⟨Option.none, 0, rfl, Nat.le_refl _, Sl.nil _ _ _⟩⟩
theorem GrS.row {w w' : World} {v : Value} {gs : List Gr} {n : Nat} {cs : List Value} (hn : n = gs.length) (hcs : cs = gcells gs) (hs : St w [.row 51 3 v n cs] w') (hl : gs.length ≤ 100000) : GrS gs (v, .row 51 3 v n cs) := by
  subst hn hcs
  refine ⟨?_, fun w0 w H j hst hj => ?_⟩
  · rcases (hs.ok 0 _ rfl).2 with ⟨h, _⟩ | ⟨g, cap, cur, h, _⟩ <;> (show v.oneCell' = true; rw [h]; rfl)
  · have hj' : H[j]? = some (.row 51 3 v gs.length (gcells gs)) := hj
    rcases (hst.ok j _ hj').2 with ⟨h, h2⟩ | ⟨g, cap, cur, h, _, _, h3, _⟩
    · subst h
      have : gs = [] := List.length_eq_zero_iff.1 h2
      subst this
      exact ⟨Option.none, 0, rfl, Nat.le_refl _, Sl.nil _ _ _⟩
    · subst h
      exact ⟨_, cap, rfl, h3, slG_row hst hj' rfl hl⟩

set_option maxRecDepth 100000 in
theorem cloneG_any (A : Option Addr) (c : Nat) (gs : List Gr) (w : World) (hr : Sl Gr.cells 3 w A gs) (hl : gs.length ≤ 100000) (hz : A = none → gs.length = 0) :
    Calls Tryz.prog 156 #[.slice A gs.length c] w (Ret w (GrS gs) (fun p => p.1) (fun p => [p.2])) := by
  refine enter Tryz.func156 rfl Tryz.ntmps156 rfl ?_
  refine WC.seq ?_
  refine WC.region ?_
  refine WL.p rfl rfl rfl (P.assign rfl) ?_
  refine WL.nil_ ?_
  refine End.seq ?_
  refine WC.seq ?_
  refine WC.seq ?_
  refine WC.region ?_
  refine WL.p rfl rfl rfl (P.move rfl) ?_
  refine WL.p rfl rfl rfl (P.eqSl Tryz.underlying32 rfl rfl) ?_
  refine WL.nil_ ?_
  refine End.seq ?_
  refine WC.cond rfl (fun hc4 => ?_) (fun hc4 => ?_)
  ·
    have hA : A = none := Option.isNone_iff_eq_none.1 hc4
    have hg : gs = [] := List.length_eq_zero_iff.1 (hz hA)
    subst hg
    refine WC.seq ?_
    refine WC.region ?_
    refine WL.p rfl rfl rfl (P.assign rfl) ?_
    refine WL.nil_ ?_
    refine End.seq ?_
    refine WC.ret ?_
    refine End.thenR ?_
    refine End.ret1 rfl rfl ?_
    exact fun w' hs' => ⟨(vnil, .nil), GrS.none, rfl, hs'.nil⟩
  ·
    obtain ⟨a, rfl⟩ : ∃ a, A = some a := by cases A with | none => cases hc4 | some a => exact ⟨a, rfl⟩
    refine WC.skip ?_
    refine End.seq ?_
    refine WC.seq ?_
    refine WC.region ?_
    refine WL.buildSlice rfl rfl rfl (fun w => run_buildSlice0 Tryz.underlying32 Tryz.sizeOf51 w) (fun b5 => ?_)
    refine WL.asRowN (sz := 3) (m := 0) 0 rfl rfl (by decide) ?_
    refine WL.p rfl rfl rfl (P.move rfl) ?_
    refine WL.appendOwn 0 (news := gcells gs) el32 rfl rfl rfl rfl rfl (by rw [gcells_len]; omega) (fun w hs => slG_flat (hr.st hs)) (gcells_one gs) (by show 0 + gs.length ≤ maxLen; unfold maxLen; omega) (by omega) (fun v' hv' => ?_)
    refine WL.p rfl rfl rfl (P.assign rfl) ?_
    refine WL.nil_ ?_
    refine End.seq ?_
    refine WC.ret ?_
    refine End.ret1 rfl rfl ?_
    exact fun w' hs' => ⟨(v', _), GrS.row (Nat.zero_add _) rfl hs' hl, rfl, hs'⟩

def encEV (x : EV) : List Value := (x.1.cells x.2.1 x.2.2).toList
theorem encEV_len (x : EV) : (encEV x).length = 33 := rfl
/-- Entries that came in, as a slice. -/
structure Evs (w : World) (A : Option Addr) (xs : List EV) : Prop where
  sl : Sl encEV 33 w A xs
  ent : ∀ x ∈ xs, EntAt w x.1 x.2.1 x.2.2
  nm : ∀ x ∈ xs, x.1.name.size ≤ 1000
  gl : ∀ x ∈ xs, x.1.grants.length ≤ 1000
  gz : ∀ x ∈ xs, ∀ m c, x.2.2 = .slice none m c → m = 0
theorem Evs.st {w0 w : World} {H : List It} {A : Option Addr} {xs : List EV} (h : Evs w0 A xs) (hs : St w0 H w) : Evs w A xs := ⟨h.sl.st hs, fun x hx => (h.ent x hx).st hs, h.nm, h.gl, h.gz⟩
theorem EntAt.one {w : World} {e : E} {va vg : Value} (h : EntAt w e va vg) : va.oneCell' = true ∧ vg.oneCell' = true := by
  obtain ⟨⟨_, _, rfl, _⟩, ⟨_, _, rfl, _⟩⟩ := h
  exact ⟨rfl, rfl⟩
/-- The index of the best one so far. -/
def BI (name : ByteArray) (xs : List EV) (k : Nat) (bi : Int) : Prop := (bi = -1 ∧ (xs.take k).foldl (bestStep matchB ordB name) none = none) ∨ ∃ (j : Nat) (x : EV), bi = (j : Int) ∧ xs[j]? = some x ∧ (xs.take k).foldl (bestStep matchB ordB name) none = some x
theorem BI.step {name : ByteArray} {xs : List EV} {k : Nat} {x : EV} (hx : xs[k]? = some x) : (xs.take (k + 1)).foldl (bestStep matchB ordB name) none = bestStep matchB ordB name ((xs.take k).foldl (bestStep matchB ordB name) none) x := by
  rw [take_snoc hx, List.foldl_append]; rfl
theorem BI.on {name : ByteArray} {xs : List EV} {k : Nat} {x : EV} (hx : xs[k]? = some x) (h : bestOn matchB ordB name ((xs.take k).foldl (bestStep matchB ordB name) none) x = true) : BI name xs (k + 1) (k : Int) := .inr ⟨k, x, rfl, hx, by rw [BI.step hx, bestStep, if_pos h]⟩
theorem BI.off {name : ByteArray} {xs : List EV} {k : Nat} {x : EV} {bi : Int} (hx : xs[k]? = some x) (hb : BI name xs k bi) (h : bestOn matchB ordB name ((xs.take k).foldl (bestStep matchB ordB name) none) x = false) : BI name xs (k + 1) bi := by
  have e := BI.step (name := name) hx
  rw [bestStep, if_neg (by rw [h]; decide)] at e
  unfold BI
  rw [e]
  exact hb
theorem evs_cell {w : World} {b off : Nat} {xs : List EV} {j : Nat} {x : EV} {i : Nat} {u : Value} (hr : Sl encEV 33 w (some ⟨b, off, none⟩) xs) (hx : xs[j]? = some x) (hu : (x.1.cells x.2.1 x.2.2)[i]? = some u) : w.cell? ⟨b, off + (j : Int).toNat * 33 + i, none⟩ = some u := by
  obtain ⟨b', o', e, hc⟩ := hr.at_ (by have := (List.getElem?_eq_some_iff.1 hx).1; omega)
  cases e
  exact hc j x hx i u (by simpa [encEV] using hu)
section
variable {mat : ByteArray → ByteArray → Bool} {ord : ByteArray → ByteArray → Int} {name : ByteArray} {b : Option EV} {x y : EV}
theorem bestOn_kind (h : (x.1.kind == 4) = false) : bestOn mat ord name b x = false := by
  unfold bestOn
  rw [decide_eq_false (by simpa using h)]; rfl
theorem bestOn_valid (h : validE x.1 = false) : bestOn mat ord name b x = false := by unfold bestOn; rw [h]; simp
theorem bestOn_mat (h : mat x.1.name name = false) : bestOn mat ord name b x = false := by unfold bestOn; rw [h]; simp
theorem bestOn_first (hk : (x.1.kind == 4) = true) (hv : validE x.1 = true) (hm : mat x.1.name name = true) (hb : b = none) : bestOn mat ord name b x = true := by
  subst hb
  unfold bestOn
  rw [hv, hm, decide_eq_true (by simpa using hk)]; rfl
theorem bestOn_more (hk : (x.1.kind == 4) = true) (hv : validE x.1 = true) (hm : mat x.1.name name = true) (hb : b = some y) : bestOn mat ord name b x = decide (ord x.1.name y.1.name < 0) := by
  subst hb
  unfold bestOn
  rw [hv, hm, decide_eq_true (by simpa using hk)]; rfl
end
def bE (r : Option EV) : E := (r.map (·.1)).getD E.zero
def bVa (r : Option EV) : Value := (r.map (·.2.1)).getD vnil
theorem bestX_all (name : ByteArray) (xs : List EV) : (xs.take xs.length).foldl (bestStep matchB ordB name) none = bestX matchB ordB name xs := by rw [List.take_length]; rfl

set_option maxRecDepth 100000 in
theorem best_any (A : Option Addr) (c : Nat) (xs : List EV) (name : ByteArray) (w : World) (hg : Good w) (hv : Evs w A xs) :
    Calls Tryz.prog 64 #[.slice A xs.length c, .string name] w (Ret w (GrS (bE (bestX matchB ordB name xs)).grants) (fun p => .tuple #[.agg ((bE (bestX matchB ordB name xs)).cells (bVa (bestX matchB ordB name xs)) p.1), .bool (bestX matchB ordB name xs).isSome]) (fun p => [p.2])) := by
  refine enter Tryz.func64 rfl Tryz.ntmps64 rfl ?_
  refine WC.seq ?_
  refine WC.region ?_
  refine WL.alloc Tryz.zeroValue34 rfl rfl (fun b4 => ?_)
  refine WL.p rfl rfl rfl (P.assign rfl) ?_
  refine WL.nil_ ?_
  refine End.seq ?_
  refine WC.seq ?_
  refine WC.region ?_
  refine WL.p rfl rfl rfl (P.assign rfl) ?_
  refine WL.nil_ ?_
  refine End.seq ?_
  refine WC.seq ?_
  refine WC.seq ?_
  refine WC.region ?_
  refine WL.p rfl rfl rfl (P.move rfl) ?_
  refine WL.p rfl rfl rfl (P.lenR Tryz.underlying46 rfl) ?_
  refine WL.p rfl rfl rfl (P.move rfl) ?_
  refine WL.nil_ ?_
  refine End.seq ?_
  refine WC.block ?_
  refine WC.loopD (σ := Nat × Int) (fun (k, bi) => [(12, .int .i64 (k : Nat)), (6, .int .i64 bi)]) (fun (k, bi) => [.blk b4 34 (E.zero.cells vnil vnil)]) (fun (k, bi) => k ≤ xs.length ∧ BI name xs k bi) (fun (k, bi) => xs.length - k) (0, -1) ⟨Nat.zero_le _, .inl ⟨rfl, rfl⟩⟩ (Env.sub_cons rfl (Env.sub_cons rfl (Env.sub_nil))) [0] rfl rfl ?_
  rintro ⟨k, bi⟩ ⟨hk, hbi⟩
  simp only at hk hbi ⊢
  refine WC.seq ?_
  refine WC.region ?_
  refine WL.p rfl rfl rfl (P.cmp rfl rfl rfl) ?_
  refine WL.nil_ ?_
  refine End.seq ?_
  refine WC.seq ?_
  refine WC.cond rfl (fun hc13 => ?_) (fun hc13 => ?_)
  ·
    have hkl : k < xs.length := by have := of_decide_eq_true hc13; omega
    have hl2 := hv.sl.1
    obtain ⟨b, off, rfl, hcx⟩ := hv.sl.at_ (by omega)
    obtain ⟨x, hx⟩ := get_of_lt (xs := xs) (k := k) hkl
    have hxm := List.mem_of_getElem? hx
    refine WC.skip ?_
    refine End.seq ?_
    refine WC.seq ?_
    refine WC.block ?_
    refine WC.seq ?_
    refine WC.region ?_
    refine WL.p rfl rfl rfl (P.move rfl) ?_
    refine WL.p rfl rfl rfl (P.elemAddr Tryz.underlying46 Tryz.sizeOf34 rfl rfl (by omega) (by omega)) ?_
    refine WL.p rfl rfl rfl (P.loadBA (vs := x.1.cells x.2.1 x.2.2) Tryz.isAgg34 Tryz.sizeOf34 rfl rfl (fun j v h => evs_cell hv.sl hx h)) ?_
    refine WL.alloc Tryz.zeroValue34 rfl rfl (fun b8 => ?_)
    refine WL.p rfl rfl rfl (P.assign rfl) ?_
    refine WL.storeW 0 Tryz.sizeOf34 rfl rfl rfl (E.one _ (hv.ent x hxm).one.1 (hv.ent x hxm).one.2) rfl rfl rfl ?_
    refine WL.nil_ ?_
    refine End.seq ?_
    refine WC.seq ?_
    refine WC.quiet (by kernel_rfl) ?_
    refine WQ.p rfl rfl rfl (P.fieldAddr fa_34_0 rfl) ?_
    refine WQ.p rfl rfl rfl (P.loadO 0 Tryz.isAgg3 rfl rfl rfl) ?_
    refine WQ.p rfl rfl rfl (P.cmp rfl rfl rfl) ?_
    refine WQ.p rfl rfl rfl (P.move rfl) ?_
    refine WQ.split 20 rfl (fun hs20 => ?_) (fun hs20 => ?_)
    ·
      refine WQ.p rfl rfl rfl (P.loadW 0 Tryz.isAgg34 Tryz.sizeOf34 rfl rfl rfl) ?_
      refine WQ.callv (ent_of Tryz.func47 rfl rfl) rfl rfl rfl (fun w hs => validE_any x.1 x.2.1 x.2.2 w (hg.st hs) ((hv.ent x hxm).st hs) (by have := hv.nm x hxm; omega)) ?_
      refine WQ.p rfl rfl rfl (P.pickT rfl rfl) ?_
      refine WQ.p rfl rfl rfl (P.move rfl) ?_
      refine WQ.split 24 rfl (fun hs24 => ?_) (fun hs24 => ?_)
      ·
        refine WQ.p rfl rfl rfl (P.fieldAddr fa_34_1 rfl) ?_
        refine WQ.p rfl rfl rfl (P.loadO 0 Tryz.isAgg9 rfl rfl rfl) ?_
        refine WQ.p rfl rfl rfl (P.move rfl) ?_
        refine WQ.callv (ent_of Tryz.func40 rfl rfl) rfl rfl rfl (fun w hs => match_any x.1.name name w (hg.st hs)) ?_
        refine WQ.p rfl rfl rfl (P.pickT rfl rfl) ?_
        refine WQ.p rfl rfl rfl (P.move rfl) ?_
        refine WQ.split 30 rfl (fun hs30 => ?_) (fun hs30 => ?_)
        ·
          refine WQ.p rfl rfl rfl (P.move rfl) ?_
          refine WQ.p rfl rfl rfl (P.cmp rfl rfl rfl) ?_
          refine WQ.p rfl rfl rfl (P.move rfl) ?_
          refine WQ.split 33 rfl (fun hs33 => ?_) (fun hs33 => ?_)
          ·
            have hb0 := of_decide_eq_true hs33
            have hn0 : (xs.take k).foldl (bestStep matchB ordB name) none = none := hbi.elim (fun h => h.2) (fun ⟨j, y, h, _⟩ => absurd h (by omega))
            refine WQ.off rfl rfl ?_
            refine WQ.off rfl rfl ?_
            refine WQ.off rfl rfl ?_
            refine WQ.off rfl rfl ?_
            refine WQ.off rfl rfl ?_
            refine WQ.off rfl rfl ?_
            refine WQ.off rfl rfl ?_
            refine WQ.off rfl rfl ?_
            refine WQ.off rfl rfl ?_
            refine WQ.p rfl rfl rfl (P.pickT rfl rfl) ?_
            refine WQ.p rfl rfl rfl (P.pickT rfl rfl) ?_
            refine WQ.nil_ ?_
            refine End.seq ?_
            refine WC.condT rfl ?_
            refine WC.region ?_
            refine WL.p rfl rfl rfl (P.move rfl) ?_
            refine WL.p rfl rfl rfl (P.assign rfl) ?_
            refine WL.nil_ ?_
            refine End.blkN ?_
            refine End.seq ?_
            refine WC.region ?_
            refine WL.p rfl rfl rfl (P.ari64 rfl rfl rfl (by omega)) ?_
            refine WL.p rfl rfl rfl (P.move rfl) ?_
            refine WL.nil_ ?_
            refine End.againD (k + 1, (k : Int)) ?_ ?_ rfl (Env.sub_cons rfl (Env.sub_cons rfl (Env.sub_nil))) rfl [1] rfl rfl
            · exact ⟨by omega, BI.on hx (bestOn_first hs20 hs24 hs30 hn0)⟩
            · show xs.length - (k + 1) < xs.length - k; omega
          ·
            have hb0 := of_decide_eq_false hs33
            obtain ⟨j, y, rfl, hy, hfy⟩ : ∃ (j : Nat) (y : EV), bi = (j : Int) ∧ xs[j]? = some y ∧ (xs.take k).foldl (bestStep matchB ordB name) none = some y := hbi.elim (fun h => absurd h.1 (by omega)) id
            have hjl := (List.getElem?_eq_some_iff.1 hy).1
            refine WQ.p rfl rfl rfl (P.fieldAddr fa_34_1 rfl) ?_
            refine WQ.p rfl rfl rfl (P.loadO 0 Tryz.isAgg9 rfl rfl rfl) ?_
            refine WQ.p rfl rfl rfl (P.move rfl) ?_
            refine WQ.p rfl rfl rfl (P.move rfl) ?_
            refine WQ.p rfl rfl rfl (P.elemAddr Tryz.underlying46 Tryz.sizeOf34 rfl rfl (by omega) (by omega)) ?_
            refine WQ.p rfl rfl rfl (P.fieldAddr fa_34_1 rfl) ?_
            refine WQ.p rfl rfl rfl (P.loadB Tryz.isAgg9 rfl (evs_cell hv.sl hy (E.get1 _ _ _))) ?_
            refine WQ.callv (ent_of Tryz.func155 rfl rfl) rfl rfl rfl (fun w hs => order_any x.1.name y.1.name w (hg.st hs)) ?_
            refine WQ.p rfl rfl rfl (P.cmp rfl rfl rfl) ?_
            refine WQ.p rfl rfl rfl (P.pickF rfl rfl) ?_
            refine WQ.p rfl rfl rfl (P.pickT rfl rfl) ?_
            refine WQ.nil_ ?_
            refine End.seq ?_
            refine WC.cond rfl (fun hc44 => ?_) (fun hc44 => ?_)
            ·
              refine WC.region ?_
              refine WL.p rfl rfl rfl (P.move rfl) ?_
              refine WL.p rfl rfl rfl (P.assign rfl) ?_
              refine WL.nil_ ?_
              refine End.blkN ?_
              refine End.seq ?_
              refine WC.region ?_
              refine WL.p rfl rfl rfl (P.ari64 rfl rfl rfl (by omega)) ?_
              refine WL.p rfl rfl rfl (P.move rfl) ?_
              refine WL.nil_ ?_
              refine End.againD (k + 1, (k : Int)) ?_ ?_ rfl (Env.sub_cons rfl (Env.sub_cons rfl (Env.sub_nil))) rfl [1] rfl rfl
              · exact ⟨by omega, BI.on hx ((bestOn_more hs20 hs24 hs30 hfy).trans hc44)⟩
              · show xs.length - (k + 1) < xs.length - k; omega
            ·
              refine WC.skip ?_
              refine End.blkN ?_
              refine End.seq ?_
              refine WC.region ?_
              refine WL.p rfl rfl rfl (P.ari64 rfl rfl rfl (by omega)) ?_
              refine WL.p rfl rfl rfl (P.move rfl) ?_
              refine WL.nil_ ?_
              refine End.againD (k + 1, (j : Int)) ?_ ?_ rfl (Env.sub_cons rfl (Env.sub_cons rfl (Env.sub_nil))) rfl [1] rfl rfl
              · exact ⟨by omega, BI.off hx hbi ((bestOn_more hs20 hs24 hs30 hfy).trans hc44)⟩
              · show xs.length - (k + 1) < xs.length - k; omega
        ·
          refine WQ.off rfl rfl ?_
          refine WQ.off rfl rfl ?_
          refine WQ.off rfl rfl ?_
          refine WQ.offU rfl rfl ?_
          refine WQ.offU rfl rfl ?_
          refine WQ.offU rfl rfl ?_
          refine WQ.offU rfl rfl ?_
          refine WQ.offU rfl rfl ?_
          refine WQ.offU rfl rfl ?_
          refine WQ.offU rfl rfl ?_
          refine WQ.offU rfl rfl ?_
          refine WQ.offU rfl rfl ?_
          refine WQ.off rfl rfl ?_
          refine WQ.p rfl rfl rfl (P.pickF rfl rfl) ?_
          refine WQ.nil_ ?_
          refine End.seq ?_
          refine WC.condF rfl ?_
          refine WC.skip ?_
          refine End.blkN ?_
          refine End.seq ?_
          refine WC.region ?_
          refine WL.p rfl rfl rfl (P.ari64 rfl rfl rfl (by omega)) ?_
          refine WL.p rfl rfl rfl (P.move rfl) ?_
          refine WL.nil_ ?_
          refine End.againD (k + 1, bi) ?_ ?_ rfl (Env.sub_cons rfl (Env.sub_cons rfl (Env.sub_nil))) rfl [1] rfl rfl
          · exact ⟨by omega, BI.off hx hbi (bestOn_mat hs30)⟩
          · show xs.length - (k + 1) < xs.length - k; omega
      ·
        refine WQ.off rfl rfl ?_
        refine WQ.off rfl rfl ?_
        refine WQ.off rfl rfl ?_
        refine WQ.off rfl rfl ?_
        refine WQ.p rfl rfl rfl (P.pickF rfl rfl) ?_
        refine WQ.p rfl rfl rfl (P.move rfl) ?_
        refine WQ.off rfl rfl ?_
        refine WQ.off rfl rfl ?_
        refine WQ.off rfl rfl ?_
        refine WQ.offU rfl rfl ?_
        refine WQ.offU rfl rfl ?_
        refine WQ.offU rfl rfl ?_
        refine WQ.offU rfl rfl ?_
        refine WQ.offU rfl rfl ?_
        refine WQ.offU rfl rfl ?_
        refine WQ.offU rfl rfl ?_
        refine WQ.offU rfl rfl ?_
        refine WQ.offU rfl rfl ?_
        refine WQ.off rfl rfl ?_
        refine WQ.p rfl rfl rfl (P.pickF rfl rfl) ?_
        refine WQ.nil_ ?_
        refine End.seq ?_
        refine WC.condF rfl ?_
        refine WC.skip ?_
        refine End.blkN ?_
        refine End.seq ?_
        refine WC.region ?_
        refine WL.p rfl rfl rfl (P.ari64 rfl rfl rfl (by omega)) ?_
        refine WL.p rfl rfl rfl (P.move rfl) ?_
        refine WL.nil_ ?_
        refine End.againD (k + 1, bi) ?_ ?_ rfl (Env.sub_cons rfl (Env.sub_cons rfl (Env.sub_nil))) rfl [1] rfl rfl
        · exact ⟨by omega, BI.off hx hbi (bestOn_valid hs24)⟩
        · show xs.length - (k + 1) < xs.length - k; omega
    ·
      refine WQ.off rfl rfl ?_
      refine WQ.off rfl rfl ?_
      refine WQ.p rfl rfl rfl (P.pickF rfl rfl) ?_
      refine WQ.p rfl rfl rfl (P.move rfl) ?_
      refine WQ.off rfl rfl ?_
      refine WQ.off rfl rfl ?_
      refine WQ.off rfl rfl ?_
      refine WQ.off rfl rfl ?_
      refine WQ.p rfl rfl rfl (P.pickF rfl rfl) ?_
      refine WQ.p rfl rfl rfl (P.move rfl) ?_
      refine WQ.off rfl rfl ?_
      refine WQ.off rfl rfl ?_
      refine WQ.off rfl rfl ?_
      refine WQ.offU rfl rfl ?_
      refine WQ.offU rfl rfl ?_
      refine WQ.offU rfl rfl ?_
      refine WQ.offU rfl rfl ?_
      refine WQ.offU rfl rfl ?_
      refine WQ.offU rfl rfl ?_
      refine WQ.offU rfl rfl ?_
      refine WQ.offU rfl rfl ?_
      refine WQ.offU rfl rfl ?_
      refine WQ.off rfl rfl ?_
      refine WQ.p rfl rfl rfl (P.pickF rfl rfl) ?_
      refine WQ.nil_ ?_
      refine End.seq ?_
      refine WC.condF rfl ?_
      refine WC.skip ?_
      refine End.blkN ?_
      refine End.seq ?_
      refine WC.region ?_
      refine WL.p rfl rfl rfl (P.ari64 rfl rfl rfl (by omega)) ?_
      refine WL.p rfl rfl rfl (P.move rfl) ?_
      refine WL.nil_ ?_
      refine End.againD (k + 1, bi) ?_ ?_ rfl (Env.sub_cons rfl (Env.sub_cons rfl (Env.sub_nil))) rfl [1] rfl rfl
      · exact ⟨by omega, BI.off hx hbi (bestOn_kind hs20)⟩
      · show xs.length - (k + 1) < xs.length - k; omega
  ·
    have ek : k = xs.length := by have := of_decide_eq_false hc13; omega
    rw [ek] at hbi
    refine WC.exit ?_
    refine End.thenX ?_
    refine End.thenX ?_
    refine End.blkX ?_
    refine End.seq ?_
    refine WC.seq ?_
    refine WC.seq ?_
    refine WC.region ?_
    refine WL.p rfl rfl rfl (P.move rfl) ?_
    refine WL.p rfl rfl rfl (P.cmp rfl rfl rfl) ?_
    refine WL.nil_ ?_
    refine End.seq ?_
    refine WC.cond rfl (fun hc48 => ?_) (fun hc48 => ?_)
    ·
      have hb0 := of_decide_eq_true hc48
      have hnone : bestX matchB ordB name xs = none := by rw [← bestX_all]; exact hbi.elim (fun h => h.2) (fun ⟨j, y, h, _⟩ => absurd h (by omega))
      refine WC.seq ?_
      refine WC.region ?_
      refine WL.p rfl rfl rfl (P.build rfl (fun w => bo_34 Tryz.zeroValue34 (cs := #[_, _, _, _, _, _, _, _, _, _, _, _, _, _, _, _, _, _, _, _, _, _, _, _, _, _, _, _, _, _, _, _, _]) rfl rfl w)) ?_
      refine WL.storeW 0 Tryz.sizeOf34 rfl rfl rfl rfl rfl rfl rfl ?_
      refine WL.p rfl rfl rfl (P.assign rfl) ?_
      refine WL.nil_ ?_
      refine End.seq ?_
      refine WC.ret ?_
      refine End.thenR ?_
      refine End.retCT 0 rfl Tryz.isAgg34 Tryz.sizeOf34 rfl rfl rfl rfl ?_
      exact fun w' hs' => ⟨(vnil, .nil), by rw [hnone]; exact GrS.none, by rw [hnone]; rfl, (hs'.sel [] rfl).nil⟩
    ·
      have hb0 := of_decide_eq_false hc48
      obtain ⟨j, y, rfl, hy, hfy⟩ : ∃ (j : Nat) (y : EV), bi = (j : Int) ∧ xs[j]? = some y ∧ (xs.take xs.length).foldl (bestStep matchB ordB name) none = some y := hbi.elim (fun h => absurd h.1 (by omega)) id
      have hjl := (List.getElem?_eq_some_iff.1 hy).1
      have hym := List.mem_of_getElem? hy
      have hsome : bestX matchB ordB name xs = some y := by rw [← bestX_all]; exact hfy
      obtain ⟨b, off, rfl, hcx⟩ := hv.sl.at_ (by omega)
      obtain ⟨Ag, cg, hvg, hcg, hrg⟩ := (hv.ent y hym).gr
      rw [hsome]
      refine WC.skip ?_
      refine End.seq ?_
      refine WC.seq ?_
      refine WC.region ?_
      refine WL.p rfl rfl rfl (P.move rfl) ?_
      refine WL.p rfl rfl rfl (P.move rfl) ?_
      refine WL.p rfl rfl rfl (P.elemAddr Tryz.underlying46 Tryz.sizeOf34 rfl rfl (by omega) (by omega)) ?_
      refine WL.p rfl rfl rfl (P.loadBA (vs := y.1.cells y.2.1 y.2.2) Tryz.isAgg34 Tryz.sizeOf34 rfl rfl (fun j v h => evs_cell hv.sl hy h)) ?_
      refine WL.alloc Tryz.zeroValue34 rfl rfl (fun b9 => ?_)
      refine WL.storeW 0 Tryz.sizeOf34 rfl rfl rfl (E.one _ (hv.ent y hym).one.1 (hv.ent y hym).one.2) rfl rfl rfl ?_
      refine WL.nil_ ?_
      refine End.seq ?_
      refine WC.seq ?_
      refine WC.region ?_
      refine WL.p rfl rfl rfl (P.fieldAddr fa_34_12 rfl) ?_
      refine WL.p rfl rfl rfl (P.loadO 0 Tryz.isAgg32 rfl rfl (show (y.1.cells y.2.1 y.2.2)[32]? = some (.slice Ag y.1.grants.length cg) by rw [← hvg]; rfl)) ?_
      refine WL.callx (ent_of Tryz.func156 rfl rfl) rfl rfl rfl (fun w hs => cloneG_any _ _ y.1.grants w (hrg.st hs) (by have := hv.gl y hym; omega) (fun h => hv.gz y hym _ _ (by rw [hvg, h]))) (fun p hp => ?_)
      refine WL.p rfl rfl rfl (P.fieldAddr fa_34_12 rfl) ?_
      refine WL.store 1 Tryz.sizeOf32 rfl rfl rfl hp.1 rfl rfl ?_
      refine WL.nil_ ?_
      refine End.seq ?_
      refine WC.seq ?_
      refine WC.region ?_
      refine WL.p rfl rfl rfl (P.loadW 1 Tryz.isAgg34 Tryz.sizeOf34 rfl rfl rfl) ?_
      refine WL.storeW 2 Tryz.sizeOf34 rfl rfl rfl (E.one _ (hv.ent y hym).one.1 hp.1) rfl rfl rfl ?_
      refine WL.p rfl rfl rfl (P.assign rfl) ?_
      refine WL.nil_ ?_
      refine End.seq ?_
      refine WC.ret ?_
      refine End.retCT 2 rfl Tryz.isAgg34 Tryz.sizeOf34 rfl rfl rfl rfl ?_
      exact fun w' hs' => ⟨p, hp, rfl, hs'.sel [0] rfl⟩

end Go.Proofs.YtlkkiimmangplaaGreatDoor

/- The rules of access. -/
namespace Go.Proofs.YtlkkiimmangplaaGreatDoor
open Go.RowKit
set_option linter.unusedVariables false
set_option linter.unusedSimpArgs false

theorem contains_sl (A : Option Addr) (c : Nat) (xs : List ByteArray) (x : ByteArray) (w : World) (hr : Sl encS 1 w A xs) : Calls Tryz.prog 105 #[.slice A xs.length c, .string x] w (RetV w (.bool (xs.any (fun y => decide (y = x))))) := by
  have key : ∀ zs : List ByteArray, Lib.containsS zs x = zs.any (fun y => decide (y = x)) := fun zs => by
    rw [Bool.eq_iff_iff, Lib.containsS_iff, List.any_eq_true]
    constructor
    · intro h; exact ⟨x, h, decide_eq_true rfl⟩
    · rintro ⟨y, hy, he⟩; rw [← of_decide_eq_true he]; exact hy
  rcases Nat.eq_zero_or_pos xs.length with h0 | hp
  · obtain rfl := List.length_eq_zero_iff.1 h0
    exact (Tryz.slices_Contains_string_empty A c x w).mono fun e w' ⟨h1, h2⟩ => ⟨h1, by rw [h2]; exact St.refl w⟩
  · have hl := hr.1
    obtain ⟨b, off, rfl, hc⟩ := hr.at_ hp
    have h := Tryz.slices_Contains_string b off xs.length c xs x w (Nat.le_refl _) (by omega) (fun j hj => by
      obtain ⟨y, hy⟩ := get_of_lt hj
      have h1 := hc j y hy 0 _ rfl
      have e : xs.getD j ByteArray.empty = y := by rw [List.getD_eq_getElem?_getD, hy]; rfl
      rw [e]
      simpa using h1)
    rw [List.take_length, key] at h
    exact h.mono fun e w' ⟨h1, h2⟩ => ⟨h1, by rw [h2]; exact St.refl w⟩
/-- A function value that answers like p at grants. -/
structure PredG (w : World) (g : Nat) (cap : Array Value) (p : Gr → Bool) : Prop where
  ent : Ent g
  at_ : ∀ (x : Gr) (w' : World), Below w.heap.size w w' → Calls Tryz.prog g (#[.agg x.cells.toArray] ++ cap) w' (RetV w' (.bool (p x)))
theorem cells_own {w0 w w' : World} {H : List It} {j b t : Nat} {cs : Array Value} (hs : St w0 H w) (hj : H[j]? = some (.blk b t cs)) (hb : Below w.heap.size w w') : ∀ (i : Nat) v, cs[i]? = some v → w'.cell? ⟨b, 0 + i, none⟩ = some v := fun i v hv => by
  have h0 : w.cell? ⟨b, 0 + i, none⟩ = some v := by rw [Nat.zero_add]; exact (cell_blk (hs.ok j _ hj).2).trans hv
  exact (hb.cell (World.block_lt_of_cell? _ _ h0)).trans h0
theorem granted_snoc {p : Gr → Bool} {gs : List Gr} {k : Nat} {g : Gr} (h : gs[k]? = some g) : (gs.take (k + 1)).foldl (granted p) (0, false) = granted p ((gs.take k).foldl (granted p) (0, false)) g := by
  rw [take_snoc h, List.foldl_append]; rfl

set_option maxRecDepth 100000 in
theorem userG_any (g : Gr) (b : Nat) (user : ByteArray) (w : World) (hc : w.cell? ⟨b, 0, none⟩ = some (.string user)) :
    Calls Tryz.prog 102 #[.agg g.cells.toArray, .pointer (some ⟨b, 0, none⟩)] w (RetV w (.bool (userG user g))) := by
  refine enter Tryz.func102 rfl Tryz.ntmps102 rfl ?_
  refine WC.seq ?_
  refine WC.region ?_
  refine WL.box rfl rfl rfl (fun b2 => ?_)
  refine WL.p rfl rfl rfl (P.assign rfl) ?_
  refine WL.nil_ ?_
  refine End.seq ?_
  refine WC.seq ?_
  refine WC.region ?_
  refine WL.p rfl rfl rfl (P.fieldAddr fa_51_1 rfl) ?_
  refine WL.p rfl rfl rfl (P.loadO 0 Tryz.isAgg4 rfl rfl rfl) ?_
  refine WL.p rfl rfl rfl (P.not_ rfl) ?_
  refine WL.p rfl rfl rfl (P.move rfl) ?_
  refine WL.split 7 rfl (fun hs7 => ?_) (fun hs7 => ?_)
  ·
    refine WL.p rfl rfl rfl (P.fieldAddr fa_51_0 rfl) ?_
    refine WL.p rfl rfl rfl (P.loadO 0 Tryz.isAgg9 rfl rfl rfl) ?_
    refine WL.p rfl rfl rfl (P.loadB Tryz.isAgg9 rfl (by assumption)) ?_
    refine WL.p rfl rfl rfl (P.cmps rfl rfl rfl) ?_
    refine WL.p rfl rfl rfl (P.pickT rfl rfl) ?_
    refine WL.p rfl rfl rfl (P.assign rfl) ?_
    refine WL.nil_ ?_
    refine End.seq ?_
    refine WC.ret ?_
    refine End.ret1 rfl rfl ?_
    exact fun w' hs' => RetV.of (by rw [userG, toList_beq, show g.group = false by simpa using hs7]; rfl) hs'
  ·
    refine WL.off rfl rfl ?_
    refine WL.off rfl rfl ?_
    refine WL.off rfl rfl ?_
    refine WL.off rfl rfl ?_
    refine WL.p rfl rfl rfl (P.pickF rfl rfl) ?_
    refine WL.p rfl rfl rfl (P.assign rfl) ?_
    refine WL.nil_ ?_
    refine End.seq ?_
    refine WC.ret ?_
    refine End.ret1 rfl rfl ?_
    exact fun w' hs' => RetV.of (by rw [userG, show g.group = true by simpa using hs7]; rfl) hs'

set_option maxRecDepth 100000 in
theorem groupG_any (g : Gr) (b : Nat) (A : Option Addr) (c : Nat) (groups : List ByteArray) (w : World) (hc : w.cell? ⟨b, 0, none⟩ = some (.slice A groups.length c)) (hr : Sl encS 1 w A groups) :
    Calls Tryz.prog 104 #[.agg g.cells.toArray, .pointer (some ⟨b, 0, none⟩)] w (RetV w (.bool (groupG groups g))) := by
  refine enter Tryz.func104 rfl Tryz.ntmps104 rfl ?_
  refine WC.seq ?_
  refine WC.region ?_
  refine WL.box rfl rfl rfl (fun b2 => ?_)
  refine WL.p rfl rfl rfl (P.assign rfl) ?_
  refine WL.nil_ ?_
  refine End.seq ?_
  refine WC.seq ?_
  refine WC.region ?_
  refine WL.p rfl rfl rfl (P.fieldAddr fa_51_1 rfl) ?_
  refine WL.p rfl rfl rfl (P.loadO 0 Tryz.isAgg4 rfl rfl rfl) ?_
  refine WL.p rfl rfl rfl (P.move rfl) ?_
  refine WL.split 6 rfl (fun hs6 => ?_) (fun hs6 => ?_)
  ·
    refine WL.p rfl rfl rfl (P.loadB Tryz.isAgg48 rfl (by assumption)) ?_
    refine WL.p rfl rfl rfl (P.fieldAddr fa_51_0 rfl) ?_
    refine WL.p rfl rfl rfl (P.loadO 0 Tryz.isAgg9 rfl rfl rfl) ?_
    refine WL.callv (ent_of Tryz.func105 rfl rfl) rfl rfl rfl (fun w hs => contains_sl A c groups g.who w (hr.st hs)) ?_
    refine WL.p rfl rfl rfl (P.pickT rfl rfl) ?_
    refine WL.p rfl rfl rfl (P.assign rfl) ?_
    refine WL.nil_ ?_
    refine End.seq ?_
    refine WC.ret ?_
    refine End.ret1 rfl rfl ?_
    exact fun w' hs' => RetV.of (by rw [groupG, show g.group = true from hs6]; rfl) hs'
  ·
    refine WL.off rfl rfl ?_
    refine WL.off rfl rfl ?_
    refine WL.off rfl rfl ?_
    refine WL.off rfl rfl ?_
    refine WL.p rfl rfl rfl (P.pickF rfl rfl) ?_
    refine WL.p rfl rfl rfl (P.assign rfl) ?_
    refine WL.nil_ ?_
    refine End.seq ?_
    refine WC.ret ?_
    refine End.ret1 rfl rfl ?_
    exact fun w' hs' => RetV.of (by rw [groupG, show g.group = false from hs6]; rfl) hs'

set_option maxRecDepth 100000 in
theorem granted_any (e : E) (va vg : Value) (gc : Nat) (cap : Array Value) (p : Gr → Bool) (w : World) (ha : EntAt w e va vg) (hp : PredG w gc cap p) :
    Calls Tryz.prog 101 #[.agg (e.cells va vg), .func (.func gc) #[] cap] w (RetV w (.tuple #[.int .i64 (grantedX p e.grants).1, .bool (grantedX p e.grants).2])) := by
  obtain ⟨⟨A1, c1, rfl, hc1, hr1⟩, ⟨A2, c2, rfl, hc2, hr2⟩⟩ := ha
  refine enter Tryz.func101 rfl Tryz.ntmps101 rfl ?_
  refine WC.seq ?_
  refine WC.region ?_
  refine WL.box rfl rfl rfl (fun b2 => ?_)
  refine WL.p rfl rfl rfl (P.assign rfl) ?_
  refine WL.p rfl rfl rfl (P.assign rfl) ?_
  refine WL.nil_ ?_
  refine End.seq ?_
  refine WC.seq ?_
  refine WC.region ?_
  refine WL.p rfl rfl rfl (P.assign rfl) ?_
  refine WL.p rfl rfl rfl (P.assign rfl) ?_
  refine WL.nil_ ?_
  refine End.seq ?_
  refine WC.seq ?_
  refine WC.seq ?_
  refine WC.region ?_
  refine WL.p rfl rfl rfl (P.fieldAddr fa_34_12 rfl) ?_
  refine WL.p rfl rfl rfl (P.loadO 0 Tryz.isAgg32 rfl rfl rfl) ?_
  refine WL.p rfl rfl rfl (P.lenR Tryz.underlying32 rfl) ?_
  refine WL.p rfl rfl rfl (P.move rfl) ?_
  refine WL.nil_ ?_
  refine End.seq ?_
  refine WC.block ?_
  refine WC.loopD (σ := Nat × Int × Bool) (fun (k, lv, fb) => [(13, .int .i64 (k : Nat)), (6, .int .i64 lv), (7, .bool fb)]) (fun (k, lv, fb) => _) (fun (k, lv, fb) => k ≤ e.grants.length ∧ (e.grants.take k).foldl (granted p) (0, false) = (lv, fb)) (fun (k, lv, fb) => e.grants.length - k) (0, 0, false) ⟨Nat.zero_le _, rfl⟩ (Env.sub_cons rfl (Env.sub_cons rfl (Env.sub_cons rfl (Env.sub_nil)))) [0] rfl rfl ?_
  rintro ⟨k, lv, fb⟩ ⟨hk, hf⟩
  simp only at hk hf ⊢
  refine WC.seq ?_
  refine WC.region ?_
  refine WL.p rfl rfl rfl (P.cmp rfl rfl rfl) ?_
  refine WL.nil_ ?_
  refine End.seq ?_
  refine WC.seq ?_
  refine WC.cond rfl (fun hc14 => ?_) (fun hc14 => ?_)
  ·
    have hkl : k < e.grants.length := by have := of_decide_eq_true hc14; omega
    have hl2 := hr2.1
    obtain ⟨b, off, rfl, hcx⟩ := hr2.at_ (by omega)
    obtain ⟨g, hx⟩ := get_of_lt (xs := e.grants) (k := k) hkl
    refine WC.skip ?_
    refine End.seq ?_
    refine WC.seq ?_
    refine WC.block ?_
    refine WC.seq ?_
    refine WC.region ?_
    refine WL.p rfl rfl rfl (P.elemAddr Tryz.underlying32 Tryz.sizeOf51 rfl rfl (by omega) (by omega)) ?_
    refine WL.p rfl rfl rfl (P.loadBA (vs := g.cells.toArray) Tryz.isAgg51 Tryz.sizeOf51 rfl rfl (fun j v h => hcx k g hx j v (by simpa using h))) ?_
    refine WL.alloc Tryz.zeroValue51 rfl rfl (fun b9 => ?_)
    refine WL.storeW 0 Tryz.sizeOf51 rfl rfl rfl rfl rfl rfl rfl ?_
    refine WL.nil_ ?_
    refine End.seq ?_
    refine WC.seq ?_
    refine WC.region ?_
    refine WL.p rfl rfl rfl (P.move rfl) ?_
    refine WL.p rfl rfl rfl (P.loadW 0 Tryz.isAgg51 Tryz.sizeOf51 rfl rfl rfl) ?_
    refine WL.callc hp.ent rfl rfl rfl rfl (fun w hs => hp.at_ g w hs.below) ?_
    refine WL.nil_ ?_
    refine End.seq ?_
    refine WC.cond rfl (fun hc19 => ?_) (fun hc19 => ?_)
    ·
      refine WC.region ?_
      refine WL.p rfl rfl rfl (P.move rfl) ?_
      refine WL.p rfl rfl rfl (P.fieldAddr fa_51_2 rfl) ?_
      refine WL.p rfl rfl rfl (P.loadO 0 Tryz.isAgg3 rfl rfl rfl) ?_
      refine WL.p rfl rfl rfl (P.max2 rfl rfl) ?_
      refine WL.p rfl rfl rfl (P.assign rfl) ?_
      refine WL.p rfl rfl rfl (P.assign rfl) ?_
      refine WL.nil_ ?_
      refine End.blkN ?_
      refine End.seq ?_
      refine WC.region ?_
      refine WL.p rfl rfl rfl (P.ari64 rfl rfl rfl (by omega)) ?_
      refine WL.p rfl rfl rfl (P.move rfl) ?_
      refine WL.nil_ ?_
      refine End.againD (k + 1, (if g.level > lv then g.level else lv), true) ?_ ?_ rfl (Env.sub_cons rfl (Env.sub_cons rfl (Env.sub_cons rfl (Env.sub_nil)))) rfl [1] rfl rfl
      · exact ⟨by omega, by rw [granted_snoc hx, hf, granted, if_pos hc19]⟩
      · show e.grants.length - (k + 1) < e.grants.length - k; omega
    ·
      refine WC.skip ?_
      refine End.blkN ?_
      refine End.seq ?_
      refine WC.region ?_
      refine WL.p rfl rfl rfl (P.ari64 rfl rfl rfl (by omega)) ?_
      refine WL.p rfl rfl rfl (P.move rfl) ?_
      refine WL.nil_ ?_
      refine End.againD (k + 1, lv, fb) ?_ ?_ rfl (Env.sub_cons rfl (Env.sub_cons rfl (Env.sub_cons rfl (Env.sub_nil)))) rfl [1] rfl rfl
      · exact ⟨by omega, by rw [granted_snoc hx, hf, granted, if_neg (by rw [hc19]; decide)]⟩
      · show e.grants.length - (k + 1) < e.grants.length - k; omega
  ·
    have ek : k = e.grants.length := by have := of_decide_eq_false hc14; omega
    rw [ek, List.take_length] at hf
    refine WC.exit ?_
    refine End.thenX ?_
    refine End.thenX ?_
    refine End.blkX ?_
    refine End.seq ?_
    refine WC.seq ?_
    refine WC.region ?_
    refine WL.p rfl rfl rfl (P.move rfl) ?_
    refine WL.p rfl rfl rfl (P.move rfl) ?_
    refine WL.p rfl rfl rfl (P.assign rfl) ?_
    refine WL.p rfl rfl rfl (P.assign rfl) ?_
    refine WL.nil_ ?_
    refine End.seq ?_
    refine WC.ret ?_
    refine End.ret2 rfl rfl rfl ?_
    exact fun w' hs' => RetV.of (by rw [grantedX, hf]) hs'

set_option maxRecDepth 100000 in
theorem rule1_any (b b' : Nat) (user name : ByteArray) (w : World) (hg : Good w) (hn : nameB name = true) (hc : w.cell? ⟨b, 0, none⟩ = some (.string name)) (hc' : w.cell? ⟨b', 0, none⟩ = some (.string user)) :
    Calls Tryz.prog 97 #[.pointer (some ⟨b, 0, none⟩), .pointer (some ⟨b', 0, none⟩)] w (RetV w (.tuple #[.int .i64 3, .bool (decide (firstB name = user))])) := by
  refine enter Tryz.func97 rfl Tryz.ntmps97 rfl ?_
  refine WC.seq ?_
  refine WC.region ?_
  refine WL.p rfl rfl rfl (P.assign rfl) ?_
  refine WL.p rfl rfl rfl (P.assign rfl) ?_
  refine WL.nil_ ?_
  refine End.seq ?_
  refine WC.seq ?_
  refine WC.quiet (by kernel_rfl) ?_
  refine WQ.p rfl rfl rfl (P.loadB Tryz.isAgg9 rfl (by assumption)) ?_
  refine WQ.callv (ent_of Tryz.func78 rfl rfl) rfl rfl rfl (fun w hs => firstQ_any name w (hg.st hs) hn) ?_
  refine WQ.p rfl rfl rfl (P.loadB Tryz.isAgg9 rfl (by assumption)) ?_
  refine WQ.p rfl rfl rfl (P.cmps rfl rfl rfl) ?_
  refine WQ.p rfl rfl rfl (P.assign rfl) ?_
  refine WQ.p rfl rfl rfl (P.assign rfl) ?_
  refine WQ.nil_ ?_
  refine End.seq ?_
  refine WC.ret ?_
  refine End.ret2 rfl rfl rfl ?_
  exact fun w' hs' => RetV.of (by rw [toList_beq]) hs'

set_option maxRecDepth 100000 in
theorem rule2_any (b : Nat) (ok : Bool) (w : World) (hc : w.cell? ⟨b, 0, none⟩ = some (.bool ok)) :
    Calls Tryz.prog 98 #[.pointer (some ⟨b, 0, none⟩)] w (RetV w (.tuple #[.int .i64 0, .bool (!ok)])) := by
  refine enter Tryz.func98 rfl Tryz.ntmps98 rfl ?_
  refine WC.seq ?_
  refine WC.region ?_
  refine WL.p rfl rfl rfl (P.assign rfl) ?_
  refine WL.p rfl rfl rfl (P.assign rfl) ?_
  refine WL.nil_ ?_
  refine End.seq ?_
  refine WC.seq ?_
  refine WC.quiet (by kernel_rfl) ?_
  refine WQ.p rfl rfl rfl (P.loadB Tryz.isAgg4 rfl (by assumption)) ?_
  refine WQ.p rfl rfl rfl (P.not_ rfl) ?_
  refine WQ.p rfl rfl rfl (P.assign rfl) ?_
  refine WQ.p rfl rfl rfl (P.assign rfl) ?_
  refine WQ.nil_ ?_
  refine End.seq ?_
  refine WC.ret ?_
  refine End.ret2 rfl rfl rfl ?_
  exact fun w' hs' => RetV.of rfl hs'

set_option maxRecDepth 100000 in
theorem rule3_any (b b' : Nat) (user owner : ByteArray) (w : World) (hc : w.cell? ⟨b, 0, none⟩ = some (.string user)) (hc' : w.cell? ⟨b', 0 + 28, none⟩ = some (.string owner)) :
    Calls Tryz.prog 99 #[.pointer (some ⟨b, 0, none⟩), .pointer (some ⟨b', 0, none⟩)] w (RetV w (.tuple #[.int .i64 3, .bool (!decide (user = bempty) && decide (owner = user))])) := by
  refine enter Tryz.func99 rfl Tryz.ntmps99 rfl ?_
  refine WC.seq ?_
  refine WC.region ?_
  refine WL.p rfl rfl rfl (P.assign rfl) ?_
  refine WL.p rfl rfl rfl (P.assign rfl) ?_
  refine WL.nil_ ?_
  refine End.seq ?_
  refine WC.seq ?_
  refine WC.quiet (by kernel_rfl) ?_
  refine WQ.p rfl rfl rfl (P.loadB Tryz.isAgg9 rfl (by assumption)) ?_
  refine WQ.p rfl rfl rfl (P.cmps rfl rfl rfl) ?_
  refine WQ.p rfl rfl rfl (P.move rfl) ?_
  refine WQ.split 6 rfl (fun hs6 => ?_) (fun hs6 => ?_)
  ·
    refine WQ.p rfl rfl rfl (P.fieldAddr fa_34_8 rfl) ?_
    refine WQ.p rfl rfl rfl (P.loadB Tryz.isAgg9 rfl (by assumption)) ?_
    refine WQ.p rfl rfl rfl (P.loadB Tryz.isAgg9 rfl (by assumption)) ?_
    refine WQ.p rfl rfl rfl (P.cmps rfl rfl rfl) ?_
    refine WQ.p rfl rfl rfl (P.pickT rfl rfl) ?_
    refine WQ.p rfl rfl rfl (P.assign rfl) ?_
    refine WQ.p rfl rfl rfl (P.assign rfl) ?_
    refine WQ.nil_ ?_
    refine End.seq ?_
    refine WC.ret ?_
    refine End.ret2 rfl rfl rfl ?_
    exact fun w' hs' => RetV.of (by rw [toList_beq] at hs6 ⊢; rw [hs6]; rfl) hs'
  ·
    refine WQ.off rfl rfl ?_
    refine WQ.off rfl rfl ?_
    refine WQ.off rfl rfl ?_
    refine WQ.off rfl rfl ?_
    refine WQ.p rfl rfl rfl (P.pickF rfl rfl) ?_
    refine WQ.p rfl rfl rfl (P.assign rfl) ?_
    refine WQ.p rfl rfl rfl (P.assign rfl) ?_
    refine WQ.nil_ ?_
    refine End.seq ?_
    refine WC.ret ?_
    refine End.ret2 rfl rfl rfl ?_
    exact fun w' hs' => RetV.of (by rw [toList_beq] at hs6; rw [hs6]; rfl) hs'

set_option maxRecDepth 100000 in
theorem rule4_any (b b' : Nat) (e : E) (va vg : Value) (user : ByteArray) (w : World) (hc : w.cell? ⟨b', 0, none⟩ = some (.string user)) (hce : ∀ (i : Nat) v, (e.cells va vg)[i]? = some v → w.cell? ⟨b, 0 + i, none⟩ = some v) (ha : EntAt w e va vg) :
    Calls Tryz.prog 100 #[.pointer (some ⟨b, 0, none⟩), .pointer (some ⟨b', 0, none⟩)] w (RetV w (.tuple #[.int .i64 (grantedX (userG user) e.grants).1, .bool (grantedX (userG user) e.grants).2])) := by
  refine enter Tryz.func100 rfl Tryz.ntmps100 rfl ?_
  refine WC.seq ?_
  refine WC.region ?_
  refine WL.p rfl rfl rfl (P.assign rfl) ?_
  refine WL.p rfl rfl rfl (P.assign rfl) ?_
  refine WL.nil_ ?_
  refine End.seq ?_
  refine WC.seq ?_
  refine WC.region ?_
  refine WL.p rfl rfl rfl (P.loadBA (vs := e.cells va vg) Tryz.isAgg34 Tryz.sizeOf34 rfl rfl hce) ?_
  refine WL.p rfl rfl rfl (P.makeFunc rfl) ?_
  refine WL.callv (ent_of Tryz.func101 rfl rfl) rfl rfl rfl (fun w hs => granted_any e va vg 102 _ (userG user) w (ha.st hs) ⟨ent_of Tryz.func102 rfl rfl, fun x w' hb => userG_any x b' user w' (by have h0 := hs.cell0 hc; exact (hb.cell (World.block_lt_of_cell? _ _ h0)).trans h0)⟩) ?_
  refine WL.p rfl rfl rfl (P.extract rfl rfl) ?_
  refine WL.p rfl rfl rfl (P.extract rfl rfl) ?_
  refine WL.p rfl rfl rfl (P.assign rfl) ?_
  refine WL.p rfl rfl rfl (P.assign rfl) ?_
  refine WL.nil_ ?_
  refine End.seq ?_
  refine WC.ret ?_
  refine End.ret2 rfl rfl rfl ?_
  exact fun w' hs' => RetV.of rfl hs'

set_option maxRecDepth 100000 in
theorem rule5_any (b b' : Nat) (e : E) (va vg : Value) (A : Option Addr) (c : Nat) (groups : List ByteArray) (w : World) (hc : w.cell? ⟨b', 0, none⟩ = some (.slice A groups.length c)) (hr : Sl encS 1 w A groups) (hce : ∀ (i : Nat) v, (e.cells va vg)[i]? = some v → w.cell? ⟨b, 0 + i, none⟩ = some v) (ha : EntAt w e va vg) :
    Calls Tryz.prog 103 #[.pointer (some ⟨b, 0, none⟩), .pointer (some ⟨b', 0, none⟩)] w (RetV w (.tuple #[.int .i64 (grantedX (groupG groups) e.grants).1, .bool (grantedX (groupG groups) e.grants).2])) := by
  refine enter Tryz.func103 rfl Tryz.ntmps103 rfl ?_
  refine WC.seq ?_
  refine WC.region ?_
  refine WL.p rfl rfl rfl (P.assign rfl) ?_
  refine WL.p rfl rfl rfl (P.assign rfl) ?_
  refine WL.nil_ ?_
  refine End.seq ?_
  refine WC.seq ?_
  refine WC.region ?_
  refine WL.p rfl rfl rfl (P.loadBA (vs := e.cells va vg) Tryz.isAgg34 Tryz.sizeOf34 rfl rfl hce) ?_
  refine WL.p rfl rfl rfl (P.makeFunc rfl) ?_
  refine WL.callv (ent_of Tryz.func101 rfl rfl) rfl rfl rfl (fun w hs => granted_any e va vg 104 _ (groupG groups) w (ha.st hs) ⟨ent_of Tryz.func104 rfl rfl, fun x w' hb => groupG_any x b' A c groups w' (by have h0 := hs.cell0 hc; exact (hb.cell (World.block_lt_of_cell? _ _ h0)).trans h0) ((hr.st hs).below hb)⟩) ?_
  refine WL.p rfl rfl rfl (P.extract rfl rfl) ?_
  refine WL.p rfl rfl rfl (P.extract rfl rfl) ?_
  refine WL.p rfl rfl rfl (P.assign rfl) ?_
  refine WL.p rfl rfl rfl (P.assign rfl) ?_
  refine WL.nil_ ?_
  refine End.seq ?_
  refine WC.ret ?_
  refine End.ret2 rfl rfl rfl ?_
  exact fun w' hs' => RetV.of rfl hs'

end Go.Proofs.YtlkkiimmangplaaGreatDoor

/- The level of a user. -/
namespace Go.Proofs.YtlkkiimmangplaaGreatDoor
open Go.RowKit
set_option linter.unusedVariables false
set_option linter.unusedSimpArgs false

theorem levelX_eq {first name user : ByteArray} {groups : List ByteArray} {xs : List EV} (hn : nameB name = true) {e : E} (he : e = bE (bestX matchB ordB name xs)) :
    levelX matchB ordB first xs user groups name = if decide (first = user) = true then 3 else if (!(bestX matchB ordB name xs).isSome) = true then 0 else if (!decide (user = bempty) && decide (e.owner = user)) = true then 3 else
      if (grantedX (userG user) e.grants).2 = true then (grantedX (userG user) e.grants).1 else if (grantedX (groupG groups) e.grants).2 = true then (grantedX (groupG groups) e.grants).1 else e.level := by
  subst he
  unfold levelX
  rw [if_pos hn]
  by_cases hf : first = user
  · rw [if_pos hf, if_pos (decide_eq_true hf)]
  · rw [if_neg hf, if_neg (by simpa using hf)]
    cases hr : bestX matchB ordB name xs with
    | none => rfl
    | some x => rfl
/-- The first rules do not decide. -/
def RO (k : Nat) (c0 c1 c2 c3 c4 : Bool) : Prop := k ≤ 5 ∧ (0 < k → c0 = false) ∧ (1 < k → c1 = false) ∧ (2 < k → c2 = false) ∧ (3 < k → c3 = false) ∧ (4 < k → c4 = false)
theorem bVa_one {w : World} {A : Option Addr} {xs : List EV} (hv : Evs w A xs) (name : ByteArray) : (bVa (bestX matchB ordB name xs)).oneCell' = true := by
  have key : ∀ (l : List EV) (b : Option EV), (∀ x ∈ l, x.2.1.oneCell' = true) → (bVa b).oneCell' = true → (bVa (l.foldl (bestStep matchB ordB name) b)).oneCell' = true := by
    intro l
    induction l with
    | nil => intro b _ h; exact h
    | cons x r ih =>
      intro b hl h
      rw [List.foldl_cons]
      refine ih _ (fun y hy => hl y (List.mem_cons_of_mem _ hy)) ?_
      unfold bestStep
      split
      · exact hl x List.mem_cons_self
      · exact h
  exact key xs none (fun x hx => (hv.ent x hx).one.1) rfl
theorem best_ent {w0 w w1 : World} {H : List It} {A : Option Addr} {xs : List EV} {name : ByteArray} {p : Value × It} {j : Nat} (hv : Evs w1 A xs) (hp : GrS (bE (bestX matchB ordB name xs)).grants p) (hs : St w0 H w) (hj : H[j]? = some p.2) (h1 : ∀ e va vg, EntAt w1 e va vg → EntAt w e va vg) :
    EntAt w (bE (bestX matchB ordB name xs)) (bVa (bestX matchB ordB name xs)) p.1 := by
  have hgr := hp.2 w0 w H j hs hj
  refine ⟨?_, hgr⟩
  have key : ∀ (l : List EV) (b : Option EV), (∀ x ∈ l, x ∈ xs) → (b = none ∨ ∃ x ∈ xs, b = some x) → (l.foldl (bestStep matchB ordB name) b = none ∨ ∃ x ∈ xs, l.foldl (bestStep matchB ordB name) b = some x) := by
    intro l
    induction l with
    | nil => intro b _ h; exact h
    | cons x r ih =>
      intro b hl h
      rw [List.foldl_cons]
      refine ih _ (fun y hy => hl y (List.mem_cons_of_mem _ hy)) ?_
      unfold bestStep
      split
      · exact .inr ⟨x, hl x List.mem_cons_self, rfl⟩
      · exact h
  have hb : bestX matchB ordB name xs = none ∨ ∃ x ∈ xs, bestX matchB ordB name xs = some x := key xs none (fun _ h => h) (.inl rfl)
  rcases hb with h | ⟨x, hx, h⟩
  · rw [h]; exact ⟨none, 0, rfl, Nat.le_refl _, Sl.nil _ _ _⟩
  · rw [h]; exact (h1 _ _ _ (hv.ent x hx)).alt

set_option maxRecDepth 100000 in
theorem level_any (A : Option Addr) (c : Nat) (xs : List EV) (user : ByteArray) (Ag : Option Addr) (cg : Nat) (groups : List ByteArray) (name : ByteArray) (w : World) (hg : Good w) (hv : Evs w A xs) (hgr : Sl encS 1 w Ag groups) :
    Calls Tryz.prog 39 #[.slice A xs.length c, .string user, .slice Ag groups.length cg, .string name] w (RetV w (.int .i64 (levelX matchB ordB (firstB name) xs user groups name))) := by
  refine enter Tryz.func39 rfl Tryz.ntmps39 rfl ?_
  refine WC.seq ?_
  refine WC.region ?_
  refine WL.box rfl rfl rfl (fun b5 => ?_)
  refine WL.box rfl rfl rfl (fun b6 => ?_)
  refine WL.box rfl rfl rfl (fun b7 => ?_)
  refine WL.p rfl rfl rfl (P.assign rfl) ?_
  refine WL.nil_ ?_
  refine End.seq ?_
  refine WC.seq ?_
  refine WC.seq ?_
  refine WC.region ?_
  refine WL.p rfl rfl rfl (P.loadO 0 Tryz.isAgg9 rfl rfl rfl) ?_
  refine WL.callv (ent_of Tryz.func76 rfl rfl) rfl rfl rfl (fun w hs => nameValid_any name w (hg.st hs)) ?_
  refine WL.p rfl rfl rfl (P.not_ rfl) ?_
  refine WL.nil_ ?_
  refine End.seq ?_
  refine WC.cond rfl (fun hc18 => ?_) (fun hc18 => ?_)
  ·
    refine WC.seq ?_
    refine WC.region ?_
    refine WL.p rfl rfl rfl (P.assign rfl) ?_
    refine WL.nil_ ?_
    refine End.seq ?_
    refine WC.ret ?_
    refine End.thenR ?_
    refine End.ret1 rfl rfl ?_
    exact fun w' hs' => RetV.of (by unfold levelX; rw [if_neg (by simpa using hc18)]) hs'
  ·
    have hn : nameB name = true := by simpa using hc18
    refine WC.skip ?_
    refine End.seq ?_
    refine WC.seq ?_
    refine WC.region ?_
    refine WL.p rfl rfl rfl (P.move rfl) ?_
    refine WL.p rfl rfl rfl (P.loadO 0 Tryz.isAgg9 rfl rfl rfl) ?_
    refine WL.callx (ent_of Tryz.func64 rfl rfl) rfl rfl rfl (fun w hs => best_any A c xs name w (hg.st hs) (hv.st hs)) (fun p hp => ?_)
    refine WL.p rfl rfl rfl (P.move rfl) ?_
    refine WL.p rfl rfl rfl (P.extract rfl rfl) ?_
    refine WL.p rfl rfl rfl (P.extract rfl rfl) ?_
    refine WL.alloc Tryz.zeroValue34 rfl rfl (fun b9 => ?_)
    refine WL.alloc Tryz.zeroValue4 rfl rfl (fun b10 => ?_)
    refine WL.storeW 1 Tryz.sizeOf34 rfl rfl rfl (E.one _ (bVa_one hv name) hp.1) rfl rfl rfl ?_
    refine WL.store 0 Tryz.sizeOf4 rfl rfl rfl rfl rfl rfl ?_
    refine WL.nil_ ?_
    refine End.seq ?_
    refine WC.seq ?_
    refine WC.region ?_
    refine WL.p rfl rfl rfl (P.makeFunc rfl) ?_
    refine WL.p rfl rfl rfl (P.makeFunc rfl) ?_
    refine WL.p rfl rfl rfl (P.makeFunc rfl) ?_
    refine WL.p rfl rfl rfl (P.makeFunc rfl) ?_
    refine WL.p rfl rfl rfl (P.makeFunc rfl) ?_
    refine WL.row Tryz.underlying120 Tryz.sizeOf115 Tryz.zeroValue115 rfl rfl rfl rfl rfl rfl rfl rfl rfl (fun b30 => ?_)
    refine WL.p rfl rfl rfl (P.assign rfl) ?_
    refine WL.nil_ ?_
    refine End.seq ?_
    refine WC.seq ?_
    refine WC.seq ?_
    refine WC.region ?_
    refine WL.p rfl rfl rfl (P.move rfl) ?_
    refine WL.p rfl rfl rfl (P.lenR Tryz.underlying120 rfl) ?_
    refine WL.p rfl rfl rfl (P.move rfl) ?_
    refine WL.nil_ ?_
    refine End.seq ?_
    refine WC.block ?_
    refine WC.loopD (σ := Nat) (fun k => [(33, .int .i64 (k : Nat))]) (fun k => [.blk b30 115 _, .blk b10 4 _, .blk b9 34 _, p.2, .blk b7 9 _, .blk b6 48 _, .blk b5 9 _]) (fun k => RO k (decide (firstB name = user)) (!(bestX matchB ordB name xs).isSome) (!decide (user = bempty) && decide ((bE (bestX matchB ordB name xs)).owner = user)) (grantedX (userG user) (bE (bestX matchB ordB name xs)).grants).2 (grantedX (groupG groups) (bE (bestX matchB ordB name xs)).grants).2) (fun k => 5 - k) 0 ⟨by decide, fun h => absurd h (by decide), fun h => absurd h (by decide), fun h => absurd h (by decide), fun h => absurd h (by decide), fun h => absurd h (by decide)⟩ (Env.sub_cons rfl (Env.sub_nil)) [0, 1, 2, 3, 4, 5, 6] rfl rfl ?_
    rintro k hro
    refine WC.seq ?_
    refine WC.region ?_
    refine WL.p rfl rfl rfl (P.cmp rfl rfl rfl) ?_
    refine WL.nil_ ?_
    refine End.seq ?_
    refine WC.seq ?_
    refine WC.cond rfl (fun hc34 => ?_) (fun hc34 => ?_)
    ·
      have hk5 : k < 5 := by have := of_decide_eq_true hc34; omega
      refine WC.skip ?_
      refine End.seq ?_
      refine WC.seq ?_
      refine WC.block ?_
      refine WC.seq ?_
      refine WC.region ?_
      rcases (by omega : k = 0 ∨ k = 1 ∨ k = 2 ∨ k = 3 ∨ k = 4) with rfl | rfl | rfl | rfl | rfl
      ·
        refine WL.p rfl rfl rfl (P.elemAddr Tryz.underlying120 Tryz.sizeOf115 rfl rfl (by decide) (by decide)) ?_
        refine WL.p rfl rfl rfl (P.loadO 0 Tryz.isAgg115 rfl rfl rfl) ?_
        refine WL.p rfl rfl rfl (P.assign rfl) ?_
        refine WL.nil_ ?_
        refine End.seq ?_
        refine WC.seq ?_
        refine WC.region ?_
        refine WL.p rfl rfl rfl (P.move rfl) ?_
        refine WL.callc (ent_of Tryz.func97 rfl rfl) rfl rfl rfl rfl (fun w hs => rule1_any b7 b5 user name w (hg.st hs) hn (cell_own hs (j := 4) rfl rfl (Below.refl _ _)) (cell_own hs (j := 6) rfl rfl (Below.refl _ _))) ?_
        refine WL.p rfl rfl rfl (P.move rfl) ?_
        refine WL.p rfl rfl rfl (P.extract rfl rfl) ?_
        refine WL.p rfl rfl rfl (P.extract rfl rfl) ?_
        refine WL.p rfl rfl rfl (P.assign rfl) ?_
        refine WL.p rfl rfl rfl (P.assign rfl) ?_
        refine WL.nil_ ?_
        refine End.seq ?_
        refine WC.seq ?_
        refine WC.region ?_
        refine WL.p rfl rfl rfl (P.move rfl) ?_
        refine WL.nil_ ?_
        refine End.seq ?_
        refine WC.cond rfl (fun hc42 => ?_) (fun hc42 => ?_)
        ·
          refine WC.seq ?_
          refine WC.region ?_
          refine WL.p rfl rfl rfl (P.move rfl) ?_
          refine WL.p rfl rfl rfl (P.assign rfl) ?_
          refine WL.nil_ ?_
          refine End.seq ?_
          refine WC.ret ?_
          refine End.blkR ?_
          refine End.thenR ?_
          refine End.thenR ?_
          refine End.blkR ?_
          refine End.thenR ?_
          refine End.ret1 rfl rfl ?_
          exact fun w' hs' => RetV.of (by rw [levelX_eq hn rfl, if_pos hc42]; first | done | rfl) hs'
        ·
          refine WC.skip ?_
          refine End.blkN ?_
          refine End.seq ?_
          refine WC.region ?_
          refine WL.p rfl rfl rfl (P.ari64 rfl rfl rfl (by omega)) ?_
          refine WL.p rfl rfl rfl (P.move rfl) ?_
          refine WL.nil_ ?_
          refine End.againD 1 ?_ ?_ rfl (Env.sub_cons rfl (Env.sub_nil)) rfl [0, 1, 2, 3, 4, 5, 6] rfl rfl
          · exact ⟨by decide, fun _ => hc42, fun h => absurd h (by decide), fun h => absurd h (by decide), fun h => absurd h (by decide), fun h => absurd h (by decide)⟩
          · decide
      ·
        refine WL.p rfl rfl rfl (P.elemAddr Tryz.underlying120 Tryz.sizeOf115 rfl rfl (by decide) (by decide)) ?_
        refine WL.p rfl rfl rfl (P.loadO 0 Tryz.isAgg115 rfl rfl rfl) ?_
        refine WL.p rfl rfl rfl (P.assign rfl) ?_
        refine WL.nil_ ?_
        refine End.seq ?_
        refine WC.seq ?_
        refine WC.region ?_
        refine WL.p rfl rfl rfl (P.move rfl) ?_
        refine WL.callc (ent_of Tryz.func98 rfl rfl) rfl rfl rfl rfl (fun w hs => rule2_any b10 (bestX matchB ordB name xs).isSome w (cell_own hs (j := 1) rfl rfl (Below.refl _ _))) ?_
        refine WL.p rfl rfl rfl (P.move rfl) ?_
        refine WL.p rfl rfl rfl (P.extract rfl rfl) ?_
        refine WL.p rfl rfl rfl (P.extract rfl rfl) ?_
        refine WL.p rfl rfl rfl (P.assign rfl) ?_
        refine WL.p rfl rfl rfl (P.assign rfl) ?_
        refine WL.nil_ ?_
        refine End.seq ?_
        refine WC.seq ?_
        refine WC.region ?_
        refine WL.p rfl rfl rfl (P.move rfl) ?_
        refine WL.nil_ ?_
        refine End.seq ?_
        refine WC.cond rfl (fun hc42 => ?_) (fun hc42 => ?_)
        ·
          refine WC.seq ?_
          refine WC.region ?_
          refine WL.p rfl rfl rfl (P.move rfl) ?_
          refine WL.p rfl rfl rfl (P.assign rfl) ?_
          refine WL.nil_ ?_
          refine End.seq ?_
          refine WC.ret ?_
          refine End.blkR ?_
          refine End.thenR ?_
          refine End.thenR ?_
          refine End.blkR ?_
          refine End.thenR ?_
          refine End.ret1 rfl rfl ?_
          exact fun w' hs' => RetV.of (by rw [levelX_eq hn rfl, if_neg (by rw [hro.2.1 (by decide)]; decide), if_pos hc42]; first | done | rfl) hs'
        ·
          refine WC.skip ?_
          refine End.blkN ?_
          refine End.seq ?_
          refine WC.region ?_
          refine WL.p rfl rfl rfl (P.ari64 rfl rfl rfl (by omega)) ?_
          refine WL.p rfl rfl rfl (P.move rfl) ?_
          refine WL.nil_ ?_
          refine End.againD 2 ?_ ?_ rfl (Env.sub_cons rfl (Env.sub_nil)) rfl [0, 1, 2, 3, 4, 5, 6] rfl rfl
          · exact ⟨by decide, fun _ => hro.2.1 (by decide), fun _ => hc42, fun h => absurd h (by decide), fun h => absurd h (by decide), fun h => absurd h (by decide)⟩
          · decide
      ·
        refine WL.p rfl rfl rfl (P.elemAddr Tryz.underlying120 Tryz.sizeOf115 rfl rfl (by decide) (by decide)) ?_
        refine WL.p rfl rfl rfl (P.loadO 0 Tryz.isAgg115 rfl rfl rfl) ?_
        refine WL.p rfl rfl rfl (P.assign rfl) ?_
        refine WL.nil_ ?_
        refine End.seq ?_
        refine WC.seq ?_
        refine WC.region ?_
        refine WL.p rfl rfl rfl (P.move rfl) ?_
        refine WL.callc (ent_of Tryz.func99 rfl rfl) rfl rfl rfl rfl (fun w hs => rule3_any b5 b9 user (bE (bestX matchB ordB name xs)).owner w (cell_own hs (j := 6) rfl rfl (Below.refl _ _)) ((fun i v h => cells_own hs (j := 2) rfl (Below.refl _ _) i v h) 28 _ rfl)) ?_
        refine WL.p rfl rfl rfl (P.move rfl) ?_
        refine WL.p rfl rfl rfl (P.extract rfl rfl) ?_
        refine WL.p rfl rfl rfl (P.extract rfl rfl) ?_
        refine WL.p rfl rfl rfl (P.assign rfl) ?_
        refine WL.p rfl rfl rfl (P.assign rfl) ?_
        refine WL.nil_ ?_
        refine End.seq ?_
        refine WC.seq ?_
        refine WC.region ?_
        refine WL.p rfl rfl rfl (P.move rfl) ?_
        refine WL.nil_ ?_
        refine End.seq ?_
        refine WC.cond rfl (fun hc42 => ?_) (fun hc42 => ?_)
        ·
          refine WC.seq ?_
          refine WC.region ?_
          refine WL.p rfl rfl rfl (P.move rfl) ?_
          refine WL.p rfl rfl rfl (P.assign rfl) ?_
          refine WL.nil_ ?_
          refine End.seq ?_
          refine WC.ret ?_
          refine End.blkR ?_
          refine End.thenR ?_
          refine End.thenR ?_
          refine End.blkR ?_
          refine End.thenR ?_
          refine End.ret1 rfl rfl ?_
          exact fun w' hs' => RetV.of (by rw [levelX_eq hn rfl, if_neg (by rw [hro.2.1 (by decide)]; decide), if_neg (by rw [hro.2.2.1 (by decide)]; decide), if_pos hc42]; first | done | rfl) hs'
        ·
          refine WC.skip ?_
          refine End.blkN ?_
          refine End.seq ?_
          refine WC.region ?_
          refine WL.p rfl rfl rfl (P.ari64 rfl rfl rfl (by omega)) ?_
          refine WL.p rfl rfl rfl (P.move rfl) ?_
          refine WL.nil_ ?_
          refine End.againD 3 ?_ ?_ rfl (Env.sub_cons rfl (Env.sub_nil)) rfl [0, 1, 2, 3, 4, 5, 6] rfl rfl
          · exact ⟨by decide, fun _ => hro.2.1 (by decide), fun _ => hro.2.2.1 (by decide), fun _ => hc42, fun h => absurd h (by decide), fun h => absurd h (by decide)⟩
          · decide
      ·
        refine WL.p rfl rfl rfl (P.elemAddr Tryz.underlying120 Tryz.sizeOf115 rfl rfl (by decide) (by decide)) ?_
        refine WL.p rfl rfl rfl (P.loadO 0 Tryz.isAgg115 rfl rfl rfl) ?_
        refine WL.p rfl rfl rfl (P.assign rfl) ?_
        refine WL.nil_ ?_
        refine End.seq ?_
        refine WC.seq ?_
        refine WC.region ?_
        refine WL.p rfl rfl rfl (P.move rfl) ?_
        refine WL.callc (ent_of Tryz.func100 rfl rfl) rfl rfl rfl rfl (fun w hs => rule4_any b9 b5 (bE (bestX matchB ordB name xs)) (bVa (bestX matchB ordB name xs)) p.1 user w (cell_own hs (j := 6) rfl rfl (Below.refl _ _)) (fun i v h => cells_own hs (j := 2) rfl (Below.refl _ _) i v h) (best_ent hv hp hs (j := 3) rfl (fun _ _ _ h => h.st hs))) ?_
        refine WL.p rfl rfl rfl (P.move rfl) ?_
        refine WL.p rfl rfl rfl (P.extract rfl rfl) ?_
        refine WL.p rfl rfl rfl (P.extract rfl rfl) ?_
        refine WL.p rfl rfl rfl (P.assign rfl) ?_
        refine WL.p rfl rfl rfl (P.assign rfl) ?_
        refine WL.nil_ ?_
        refine End.seq ?_
        refine WC.seq ?_
        refine WC.region ?_
        refine WL.p rfl rfl rfl (P.move rfl) ?_
        refine WL.nil_ ?_
        refine End.seq ?_
        refine WC.cond rfl (fun hc42 => ?_) (fun hc42 => ?_)
        ·
          refine WC.seq ?_
          refine WC.region ?_
          refine WL.p rfl rfl rfl (P.move rfl) ?_
          refine WL.p rfl rfl rfl (P.assign rfl) ?_
          refine WL.nil_ ?_
          refine End.seq ?_
          refine WC.ret ?_
          refine End.blkR ?_
          refine End.thenR ?_
          refine End.thenR ?_
          refine End.blkR ?_
          refine End.thenR ?_
          refine End.ret1 rfl rfl ?_
          exact fun w' hs' => RetV.of (by rw [levelX_eq hn rfl, if_neg (by rw [hro.2.1 (by decide)]; decide), if_neg (by rw [hro.2.2.1 (by decide)]; decide), if_neg (by rw [hro.2.2.2.1 (by decide)]; decide), if_pos hc42]; first | done | rfl) hs'
        ·
          refine WC.skip ?_
          refine End.blkN ?_
          refine End.seq ?_
          refine WC.region ?_
          refine WL.p rfl rfl rfl (P.ari64 rfl rfl rfl (by omega)) ?_
          refine WL.p rfl rfl rfl (P.move rfl) ?_
          refine WL.nil_ ?_
          refine End.againD 4 ?_ ?_ rfl (Env.sub_cons rfl (Env.sub_nil)) rfl [0, 1, 2, 3, 4, 5, 6] rfl rfl
          · exact ⟨by decide, fun _ => hro.2.1 (by decide), fun _ => hro.2.2.1 (by decide), fun _ => hro.2.2.2.1 (by decide), fun _ => hc42, fun h => absurd h (by decide)⟩
          · decide
      ·
        refine WL.p rfl rfl rfl (P.elemAddr Tryz.underlying120 Tryz.sizeOf115 rfl rfl (by decide) (by decide)) ?_
        refine WL.p rfl rfl rfl (P.loadO 0 Tryz.isAgg115 rfl rfl rfl) ?_
        refine WL.p rfl rfl rfl (P.assign rfl) ?_
        refine WL.nil_ ?_
        refine End.seq ?_
        refine WC.seq ?_
        refine WC.region ?_
        refine WL.p rfl rfl rfl (P.move rfl) ?_
        refine WL.callc (ent_of Tryz.func103 rfl rfl) rfl rfl rfl rfl (fun w hs => rule5_any b9 b6 (bE (bestX matchB ordB name xs)) (bVa (bestX matchB ordB name xs)) p.1 Ag cg groups w (cell_own hs (j := 5) rfl rfl (Below.refl _ _)) (hgr.st hs) (fun i v h => cells_own hs (j := 2) rfl (Below.refl _ _) i v h) (best_ent hv hp hs (j := 3) rfl (fun _ _ _ h => h.st hs))) ?_
        refine WL.p rfl rfl rfl (P.move rfl) ?_
        refine WL.p rfl rfl rfl (P.extract rfl rfl) ?_
        refine WL.p rfl rfl rfl (P.extract rfl rfl) ?_
        refine WL.p rfl rfl rfl (P.assign rfl) ?_
        refine WL.p rfl rfl rfl (P.assign rfl) ?_
        refine WL.nil_ ?_
        refine End.seq ?_
        refine WC.seq ?_
        refine WC.region ?_
        refine WL.p rfl rfl rfl (P.move rfl) ?_
        refine WL.nil_ ?_
        refine End.seq ?_
        refine WC.cond rfl (fun hc42 => ?_) (fun hc42 => ?_)
        ·
          refine WC.seq ?_
          refine WC.region ?_
          refine WL.p rfl rfl rfl (P.move rfl) ?_
          refine WL.p rfl rfl rfl (P.assign rfl) ?_
          refine WL.nil_ ?_
          refine End.seq ?_
          refine WC.ret ?_
          refine End.blkR ?_
          refine End.thenR ?_
          refine End.thenR ?_
          refine End.blkR ?_
          refine End.thenR ?_
          refine End.ret1 rfl rfl ?_
          exact fun w' hs' => RetV.of (by rw [levelX_eq hn rfl, if_neg (by rw [hro.2.1 (by decide)]; decide), if_neg (by rw [hro.2.2.1 (by decide)]; decide), if_neg (by rw [hro.2.2.2.1 (by decide)]; decide), if_neg (by rw [hro.2.2.2.2.1 (by decide)]; decide), if_pos hc42]; first | done | rfl) hs'
        ·
          refine WC.skip ?_
          refine End.blkN ?_
          refine End.seq ?_
          refine WC.region ?_
          refine WL.p rfl rfl rfl (P.ari64 rfl rfl rfl (by omega)) ?_
          refine WL.p rfl rfl rfl (P.move rfl) ?_
          refine WL.nil_ ?_
          refine End.againD 5 ?_ ?_ rfl (Env.sub_cons rfl (Env.sub_nil)) rfl [0, 1, 2, 3, 4, 5, 6] rfl rfl
          · exact ⟨by decide, fun _ => hro.2.1 (by decide), fun _ => hro.2.2.1 (by decide), fun _ => hro.2.2.2.1 (by decide), fun _ => hro.2.2.2.2.1 (by decide), fun _ => hc42⟩
          · decide
    ·
      have hk5 : k = 5 := by have := of_decide_eq_false hc34; have := hro.1; omega
      subst hk5
      refine WC.exit ?_
      refine End.thenX ?_
      refine End.thenX ?_
      refine End.blkX ?_
      refine End.seq ?_
      refine WC.seq ?_
      refine WC.region ?_
      refine WL.p rfl rfl rfl (P.fieldAddr fa_34_11 rfl) ?_
      refine WL.p rfl rfl rfl (P.loadO 2 Tryz.isAgg3 rfl rfl rfl) ?_
      refine WL.p rfl rfl rfl (P.assign rfl) ?_
      refine WL.nil_ ?_
      refine End.seq ?_
      refine WC.ret ?_
      refine End.ret1 rfl rfl ?_
      exact fun w' hs' => RetV.of (by rw [levelX_eq hn rfl, if_neg (by rw [hro.2.1 (by omega)]; decide), if_neg (by rw [hro.2.2.1 (by omega)]; decide), if_neg (by rw [hro.2.2.2.1 (by omega)]; decide), if_neg (by rw [hro.2.2.2.2.1 (by omega)]; decide), if_neg (by rw [hro.2.2.2.2.2 (by omega)]; decide)]; first | done | rfl) hs'

end Go.Proofs.YtlkkiimmangplaaGreatDoor

/- Own blocks in another order; remainders of any kind; a call through a value in a region that draws. -/
namespace Go.Proofs.YtlkkiimmangplaaGreatDoor
open Go.RowKit
set_option linter.unusedVariables false
set_option linter.unusedSimpArgs false
section
variable {w0 : World} {n : Nat} {ops : Array Oper} {Q : Exit → Act → World → Prop} {o : Oper} {rest : List Oper} {ρ : Env} {H : List It}
variable {d : Nat} {ty t t' : TypeId} {pos : String} {af : Array Edge} {g : Option (Nat × Bool)} {x y z : Operand} {v u : Value}
theorem P.remU8 {p q : Int} (hx : ev ρ x = some (.int .u8 p)) (hy : ev ρ y = some (.int .u8 q)) (hp : 0 ≤ p) (hq : 0 < q) : Pure w0 n ρ H ⟨some d, .binOp .rem t x y t', ty, pos, af, g⟩ (.int .u8 (p % q)) := fun a w hf _ => by
  have h1 : ¬ q = 0 := by omega
  have h2 : p.tmod q = p % q := Int.tmod_eq_emod_of_nonneg hp
  simp [execOp, hf.eval hx, hf.eval hy, eqGuard, binOp, Op.intDiv, h1, h2]
end
abbrev encB (x : Int) : List Value := [.int .u8 x]
theorem Sl.elB {w : World} {b off : Nat} {xs : List Int} {i : Int} {x : Int} (h : Sl encB 1 w (some ⟨b, off, none⟩) xs) (h0 : 0 ≤ i) (hx : xs[i.toNat]? = some x) : w.cell? ⟨b, off + i.toNat * 1, none⟩ = some (.int .u8 x) := by
  obtain ⟨b', o', e, hc⟩ := h.at_ (by have := (List.getElem?_eq_some_iff.1 hx).1; omega)
  cases e
  have := hc i.toNat x hx 0 _ rfl
  rw [Int.toNat_natCast] at this
  exact this
theorem el46 : ElT 46 34 33 336 (.agg (E.zero.cells vnil vnil)) := ElT.of Tryz.underlying46 (by kernel_rfl) rfl (by decide)
end Go.Proofs.YtlkkiimmangplaaGreatDoor

/- How levels rise. -/
namespace Go.Proofs.YtlkkiimmangplaaGreatDoor
open Go.RowKit
set_option linter.unusedVariables false
set_option linter.unusedSimpArgs false

theorem riseP_in {rise : List Int} {level n x : Int} (h : ¬ (rise.length = 0 ∨ level < 0 ∨ 3 < level)) (hx : rise.getD (n % (rise.length : Int)).toNat 0 = x) : riseP rise level n = if level + x % 4 < 3 then level + x % 4 else 3 := by
  unfold riseP
  rw [if_neg h, hx]
  split <;> split <;> omega

set_option maxRecDepth 100000 in
theorem rise_any (level n : Int) (b : Nat) (A : Option Addr) (c : Nat) (rise : List Int) (w : World) (hc : w.cell? ⟨b, 0, none⟩ = some (.slice A rise.length c)) (hr : Sl encB 1 w A rise) (hb : ∀ x ∈ rise, 0 ≤ x ∧ x < 256) (hn0 : 0 ≤ n) :
    Calls Tryz.prog 38 #[.int .i64 level, .int .i64 n, .pointer (some ⟨b, 0, none⟩)] w (RetV w (.int .i64 (riseP rise level n))) := by
  refine enter Tryz.func38 rfl Tryz.ntmps38 rfl ?_
  refine WC.seq ?_
  refine WC.region ?_
  refine WL.p rfl rfl rfl (P.assign rfl) ?_
  refine WL.nil_ ?_
  refine End.seq ?_
  refine WC.seq ?_
  refine WC.seq ?_
  refine WC.region ?_
  refine WL.p rfl rfl rfl (P.loadB Tryz.isAgg47 rfl (by assumption)) ?_
  refine WL.p rfl rfl rfl (P.lenR Tryz.underlying47 rfl) ?_
  refine WL.p rfl rfl rfl (P.cmp rfl rfl rfl) ?_
  refine WL.p rfl rfl rfl (P.move rfl) ?_
  refine WL.split 9 rfl (fun hs9 => ?_) (fun hs9 => ?_)
  ·
    refine WL.off rfl rfl ?_
    refine WL.off rfl rfl ?_
    refine WL.p rfl rfl rfl (P.pickT rfl rfl) ?_
    refine WL.p rfl rfl rfl (P.move rfl) ?_
    refine WL.off rfl rfl ?_
    refine WL.off rfl rfl ?_
    refine WL.p rfl rfl rfl (P.pickT rfl rfl) ?_
    refine WL.nil_ ?_
    refine End.seq ?_
    refine WC.condT rfl ?_
    refine WC.seq ?_
    refine WC.region ?_
    refine WL.p rfl rfl rfl (P.move rfl) ?_
    refine WL.p rfl rfl rfl (P.assign rfl) ?_
    refine WL.nil_ ?_
    refine End.seq ?_
    refine WC.ret ?_
    refine End.thenR ?_
    refine End.ret1 rfl rfl ?_
    exact fun w' hs' => RetV.of (by rw [riseP, if_pos (.inl (by simpa using hs9))]) hs'
  ·
    refine WL.p rfl rfl rfl (P.move rfl) ?_
    refine WL.p rfl rfl rfl (P.cmp rfl rfl rfl) ?_
    refine WL.p rfl rfl rfl (P.pickF rfl rfl) ?_
    refine WL.p rfl rfl rfl (P.move rfl) ?_
    refine WL.split 13 rfl (fun hs13 => ?_) (fun hs13 => ?_)
    ·
      refine WL.off rfl rfl ?_
      refine WL.off rfl rfl ?_
      refine WL.p rfl rfl rfl (P.pickT rfl rfl) ?_
      refine WL.nil_ ?_
      refine End.seq ?_
      refine WC.condT rfl ?_
      refine WC.seq ?_
      refine WC.region ?_
      refine WL.p rfl rfl rfl (P.move rfl) ?_
      refine WL.p rfl rfl rfl (P.assign rfl) ?_
      refine WL.nil_ ?_
      refine End.seq ?_
      refine WC.ret ?_
      refine End.thenR ?_
      refine End.ret1 rfl rfl ?_
      exact fun w' hs' => RetV.of (by rw [riseP, if_pos (.inr (.inl (of_decide_eq_true hs13)))]) hs'
    ·
      refine WL.p rfl rfl rfl (P.move rfl) ?_
      refine WL.p rfl rfl rfl (P.cmp rfl rfl rfl) ?_
      refine WL.p rfl rfl rfl (P.pickF rfl rfl) ?_
      refine WL.nil_ ?_
      refine End.seq ?_
      refine WC.cond rfl (fun hc16 => ?_) (fun hc16 => ?_)
      ·
        refine WC.seq ?_
        refine WC.region ?_
        refine WL.p rfl rfl rfl (P.move rfl) ?_
        refine WL.p rfl rfl rfl (P.assign rfl) ?_
        refine WL.nil_ ?_
        refine End.seq ?_
        refine WC.ret ?_
        refine End.thenR ?_
        refine End.ret1 rfl rfl ?_
        exact fun w' hs' => RetV.of (by rw [riseP, if_pos (.inr (.inr (of_decide_eq_true hc16)))]) hs'
      ·
        have hne : ¬ (rise.length : Int) = 0 := by simpa using hs9
        have hlo := of_decide_eq_false hs13
        have hhi := of_decide_eq_false hc16
        have hm0 : 0 ≤ n % (rise.length : Int) := Int.emod_nonneg _ hne
        have hm1 : n % (rise.length : Int) < rise.length := Int.emod_lt_of_pos _ (by omega)
        obtain ⟨ba, off, rfl, _⟩ := hr.at_ (by omega)
        obtain ⟨x, hx⟩ := get_of_lt (xs := rise) (k := (n % (rise.length : Int)).toNat) (by omega)
        have hxb := hb x (List.mem_of_getElem? hx)
        have hgx : rise.getD (n % (rise.length : Int)).toNat 0 = x := by rw [List.getD_eq_getElem?_getD, hx]; rfl
        refine WC.skip ?_
        refine End.seq ?_
        refine WC.seq ?_
        refine WC.quiet (by kernel_rfl) ?_
        refine WQ.p rfl rfl rfl (P.move rfl) ?_
        refine WQ.p rfl rfl rfl (P.loadB Tryz.isAgg47 rfl (by assumption)) ?_
        refine WQ.p rfl rfl rfl (P.move rfl) ?_
        refine WQ.p rfl rfl rfl (P.loadB Tryz.isAgg47 rfl (by assumption)) ?_
        refine WQ.p rfl rfl rfl (P.lenR Tryz.underlying47 rfl) ?_
        refine WQ.p rfl rfl rfl (P.rem rfl rfl (by omega) (by omega)) ?_
        refine WQ.p rfl rfl rfl (P.elemAddr Tryz.underlying47 Tryz.sizeOf5 rfl rfl (by omega) (by omega)) ?_
        refine WQ.p rfl rfl rfl (P.loadB Tryz.isAgg5 rfl (hr.elB hm0 hx)) ?_
        refine WQ.p rfl rfl rfl (P.remU8 rfl rfl (by omega) (by decide)) ?_
        refine WQ.p rfl rfl rfl (P.conv (by kernel_rfl) Tryz.underlying3 rfl (wrap_in (by omega))) ?_
        refine WQ.p rfl rfl rfl (P.ari64 rfl rfl rfl (by omega)) ?_
        refine WQ.p rfl rfl rfl (P.min2 rfl rfl) ?_
        refine WQ.p rfl rfl rfl (P.assign rfl) ?_
        refine WQ.nil_ ?_
        refine End.seq ?_
        refine WC.ret ?_
        refine End.ret1 rfl rfl ?_
        exact fun w' hs' => RetV.of (by rw [riseP_in (by omega) hgx]) hs'

end Go.Proofs.YtlkkiimmangplaaGreatDoor

/- Own blocks of which some are told one by one and others as a list; append of a block of the same drawing region. -/
namespace Go.Proofs.YtlkkiimmangplaaGreatDoor
open Go.RowKit
set_option linter.unusedVariables false
set_option linter.unusedSimpArgs false
theorem St.pick {w0 w : World} {H H' : List It} (hs : St w0 H w) (f : Nat → Nat) (hf : ∀ (i : Nat) x, H'[i]? = some x → H[f i]? = some x) (hi : ∀ i j, i < H'.length → j < H'.length → i ≠ j → f i ≠ f j) : St w0 H' w :=
  ⟨hs.below, fun i x hx => hs.ok _ x (hf i x hx), fun i j x y hx hy hij k hk hk' => hs.apart _ _ x y (hf i x hx) (hf j y hy) (hi i j (List.getElem?_eq_some_iff.1 hx).1 (List.getElem?_eq_some_iff.1 hy).1 hij) k hk hk'⟩
/-- Some of the first t blocks, in a given order, and all that stand behind them. -/
def selT (H : List It) (l : List Nat) (t : Nat) : List It := l.map (fun i => H.getD i .nil) ++ H.drop t
def selTok (H : List It) (l : List Nat) (t : Nat) : Bool := l.all (fun i => Nat.blt i t) && (decide l.Nodup && Nat.ble t H.length)
theorem St.selT {w0 w : World} {H : List It} (hs : St w0 H w) {l : List Nat} {t : Nat} (h : selTok H l t = true) : St w0 (selT H l t) w := by
  unfold selTok at h
  rw [Bool.and_eq_true, Bool.and_eq_true, List.all_eq_true, decide_eq_true_eq] at h
  obtain ⟨h1, h2, h3⟩ := h
  have h3' : t ≤ H.length := by simpa using h3
  have hlt : ∀ i (hi : i < l.length), l[i] < t := fun i hi => by simpa [Nat.blt, Nat.succ_le_iff] using h1 l[i] (List.getElem_mem hi)
  refine hs.pick (fun i => if i < l.length then l.getD i 0 else t + (i - l.length)) (fun i x hx => ?_) (fun i j hi hj hij => ?_)
  · unfold YtlkkiimmangplaaGreatDoor.selT at hx
    by_cases hl : i < l.length
    · rw [if_pos hl]
      rw [List.getElem?_append_left (by simpa using hl), List.getElem?_map, List.getElem?_eq_getElem hl] at hx
      have e : l.getD i 0 = l[i] := by rw [List.getD_eq_getElem?_getD, List.getElem?_eq_getElem hl]; rfl
      have hlH : l[i] < H.length := by have := hlt i hl; omega
      rw [e]
      simp only [Option.map_some, List.getD_eq_getElem?_getD, List.getElem?_eq_getElem hlH, Option.getD_some] at hx
      rw [List.getElem?_eq_getElem hlH]
      exact hx
    · rw [if_neg hl]
      rw [List.getElem?_append_right (by simp; omega), List.length_map, List.getElem?_drop] at hx
      exact hx
  · by_cases hl : i < l.length <;> by_cases hl' : j < l.length
    · rw [if_pos hl, if_pos hl']
      have e : l.getD i 0 = l[i] := by rw [List.getD_eq_getElem?_getD, List.getElem?_eq_getElem hl]; rfl
      have e' : l.getD j 0 = l[j] := by rw [List.getD_eq_getElem?_getD, List.getElem?_eq_getElem hl']; rfl
      rw [e, e']
      exact fun h => hij ((List.getElem_inj h2).1 h)
    · rw [if_pos hl, if_neg hl']
      have e : l.getD i 0 = l[i] := by rw [List.getD_eq_getElem?_getD, List.getElem?_eq_getElem hl]; rfl
      have := hlt i hl
      rw [e]; omega
    · rw [if_neg hl, if_pos hl']
      have e' : l.getD j 0 = l[j] := by rw [List.getD_eq_getElem?_getD, List.getElem?_eq_getElem hl']; rfl
      have := hlt j hl'
      rw [e']; omega
    · rw [if_neg hl, if_neg hl']; omega
section
variable {w0 : World} {n : Nat} {ops : Array Oper} {Q : Exit → Act → World → Prop} {o : Oper} {rest : List Oper} {ρ : Env} {H : List It}
variable {d : Nat} {ty t t' : TypeId} {pos : String} {af : Array Edge} {g : Option (Nat × Bool)} {x y z : Operand} {v u : Value}
theorem End.cutT {e : Exit} (l : List Nat) (m : Nat) (h : selTok H l m = true) (k : End w0 n Q e ρ (selT H l m)) : End w0 n Q e ρ H := fun a w hf hs => k a w hf (hs.selT h)
theorem WC.cutT {c : Code} (l : List Nat) (m : Nat) (h : selTok H l m = true) (k : WC w0 n Q c ρ (selT H l m)) : WC w0 n Q c ρ H := fun a w hf hs => k a w hf (hs.selT h)
theorem WL.know {φ : Prop} {l : List Oper} (h : ∀ w, St w0 H w → φ) (k : φ → WL w0 n ops Q l ρ H) : WL w0 n ops Q l ρ H := fun a w hf hs => k (h w hs) a w hf hs
variable {vs : List (Lt → Value)} {Hs : (Nat → Bool) → Lt → List It} {al : List Nat} {i : Nat}
theorem Stp.appendD (j : Nat) {e size bytes l m : Nat} {zv v : Value} {xs news : List Value} (hel : ElT t e size bytes zv) (hi : al.contains i = true) (hm : 0 < m) (hl : news.length = m * size) (h1 : ∀ u ∈ news, u.oneCell' = true) (h63 : l + m ≤ maxLen) (hbytes : (l + m) * bytes ≤ 140737488355328)
    (hr : ∀ (b : Nat → Bool) (s : Lt), (∀ j ∈ dps ⟨some d, .call ⟨.builtin .append, #[x, y], #[t, t]⟩, ty, pos, af, g⟩, b j = true) → ∃ (a : Addr) (c' : Nat), (onB ops (envOf ops (fun j => nth vs j s) (dps ⟨some d, .call ⟨.builtin .append, #[x, y], #[t, t]⟩, ty, pos, af, g⟩) ++ ρ) ⟨some d, .call ⟨.builtin .append, #[x, y], #[t, t]⟩, ty, pos, af, g⟩ = some true) ∧
      ev (envOf ops (fun j => nth vs j s) (dps ⟨some d, .call ⟨.builtin .append, #[x, y], #[t, t]⟩, ty, pos, af, g⟩) ++ ρ) x = some v ∧ ev (envOf ops (fun j => nth vs j s) (dps ⟨some d, .call ⟨.builtin .append, #[x, y], #[t, t]⟩, ty, pos, af, g⟩) ++ ρ) y = some (.slice (some a) m c') ∧
      (∀ w, St w0 (Hs b s) w → ∀ j u, news[j]? = some u → w.cell? (a.add j) = some u) ∧ (∃ Y, (Hs b s)[j]? = some (bif b i then Y else .row e size v l xs)) ∧
      ∀ q : Nat × Nat, nth vs i (updl s i q) = .slice (some ⟨q.1, 0, none⟩) (l + m) q.2 ∧ (b i = false → Hs (up b i) (updl s i q) = (Hs b s).set j (.row e size (.slice (some ⟨q.1, 0, none⟩) (l + m) q.2) (l + m) (xs ++ news)))) : Stp w0 n ops Q ρ vs Hs al i ⟨some d, .call ⟨.builtin .append, #[x, y], #[t, t]⟩, ty, pos, af, g⟩ := fun b s hcl hb hd => by
  obtain ⟨a, c', hon, hx, hy, hnews, ⟨Y, hj⟩, hq⟩ := hr b s hd
  rw [hb] at hj
  refine OS.val hon fun act w hf hs => ?_
  obtain ⟨v', w', h2, h3, h4⟩ := append_own (ty := ty) hel hs j hj a m c' news hl (hnews w hs) h1 h63 hbytes
  have hlen : j < (Hs b s).length := (List.getElem?_eq_some_iff.1 hj).1
  have hrow := h3.ok j _ (List.getElem?_set_self hlen)
  rcases hrow.2 with ⟨_, h5⟩ | ⟨q, cap, cur, rfl, _⟩
  · omega
  · obtain ⟨h6, h7⟩ := hq (q, cap)
    refine ⟨_, w', by simp [execOp, resolve, invoke, builtin, hf.eval hx, hf.eval hy, h2], _, .inr ⟨by simpa using hi, (q, cap), rfl⟩, h6.symm, ?_⟩
    rw [h7 hb]
    exact h3
end
/-- What a list of own rows bears: these entries read, wherever the rows are among what is own. -/
def Held (w0 : World) (its : List It) (ys : List EV) : Prop := ∀ (w : World) (H : List It), St w0 H w → (∀ i ∈ its, i ∈ H) → ∀ y ∈ ys, EntAt w y.1 y.2.1 y.2.2
theorem Held.nil (w0 : World) : Held w0 [] [] := fun _ _ _ _ y hy => by cases hy
theorem Held.old {w0 : World} {its : List It} {ys : List EV} {x : EV} (h : Held w0 its ys) (hx : EntAt w0 x.1 x.2.1 x.2.2) : Held w0 its (ys ++ [x]) := fun w H hs hi y hy => by
  rcases List.mem_append.1 hy with hy | hy
  · exact h w H hs hi y hy
  · rw [List.mem_singleton.1 hy]
    exact hx.st hs
theorem Held.new {w0 : World} {its : List It} {ys : List EV} {e : E} {va v : Value} {it : It} (h : Held w0 its ys) (ha : ∃ A c, va = .slice A e.alt.length c ∧ e.alt.length ≤ c ∧ Sl encI 1 w0 A e.alt) (hg : GrS e.grants (v, it)) : Held w0 (it :: its) (ys ++ [(e, va, v)]) := fun w H hs hi y hy => by
  rcases List.mem_append.1 hy with hy | hy
  · exact h w H hs (fun i hm => hi i (List.mem_cons_of_mem _ hm)) y hy
  · rw [List.mem_singleton.1 hy]
    obtain ⟨j, hj⟩ := List.mem_iff_getElem?.1 (hi it List.mem_cons_self)
    obtain ⟨A, c, h1, h2, h3⟩ := ha
    exact ⟨⟨A, c, h1, h2, h3.st hs⟩, hg.2 w0 w H j hs hj⟩
theorem EntAt.gz {w : World} {e : E} {va vg : Value} (h : EntAt w e va vg) (m c : Nat) (hv : vg = .slice none m c) : m = 0 := by
  obtain ⟨_, ⟨A, c', h1, _, h3⟩⟩ := h
  rw [hv] at h1
  cases h1
  rcases Nat.eq_zero_or_pos e.grants.length with h0 | hp
  · exact h0
  · obtain ⟨_, _, h4, _⟩ := h3.at_ hp
    cases h4
end Go.Proofs.YtlkkiimmangplaaGreatDoor

/- The law on access through the layers. -/
namespace Go.Proofs.YtlkkiimmangplaaGreatDoor
open Go.RowKit
set_option linter.unusedVariables false
set_option linter.unusedSimpArgs false

theorem row_one {w0 w : World} {H : List It} {j e sz n : Nat} {v : Value} {cs : List Value} (hs : St w0 H w) (hj : H[j]? = some (.row e sz v n cs)) : v.oneCell' = true := by
  rcases (hs.ok j _ hj).2 with ⟨h, _⟩ | ⟨g, cap, cur, h, _⟩ <;> (rw [h]; rfl)
theorem row_slice {w0 w : World} {H : List It} {j e sz n : Nat} {v : Value} {cs : List Value} (hs : St w0 H w) (hj : H[j]? = some (.row e sz v n cs)) : ∃ A c, v = .slice A n c := by
  rcases (hs.ok j _ hj).2 with ⟨h, h2⟩ | ⟨g, cap, cur, h, _⟩
  · exact ⟨none, 0, by rw [h, h2]⟩
  · exact ⟨_, cap, h⟩
theorem GrS.of {v : Value} {gs : List Gr} {n : Nat} {cs : List Value} (hn : n = gs.length) (hcs : cs = gcells gs) (h1 : v.oneCell' = true) (hl : gs.length ≤ 100000) : GrS gs (v, .row 51 3 v n cs) := by
  subst hn hcs
  refine ⟨h1, fun w0 w H j hst hj => ?_⟩
  have hj' : H[j]? = some (.row 51 3 v gs.length (gcells gs)) := hj
  rcases (hst.ok j _ hj').2 with ⟨h, h2⟩ | ⟨g, cap, cur, h, _, _, h3, _⟩
  · subst h
    have : gs = [] := List.length_eq_zero_iff.1 h2
    subst this
    exact ⟨Option.none, 0, rfl, Nat.le_refl _, Sl.nil _ _ _⟩
  · subst h
    exact ⟨_, cap, rfl, h3, slG_row hst hj' rfl hl⟩
theorem encEV_one {x : EV} (h1 : x.2.1.oneCell' = true) (h2 : x.2.2.oneCell' = true) : ∀ u ∈ encEV x, u.oneCell' = true := List.all_eq_true.1 (E.one x.1 h1 h2)
theorem evs_of {w : World} {A : Option Addr} {xs : List EV} (h1 : Sl encEV 33 w A xs) (h2 : ∀ x ∈ xs, EntAt w x.1 x.2.1 x.2.2) (h3 : ∀ x ∈ xs, x.1.name.size ≤ 60 ∧ x.1.grants.length ≤ 12) : Evs w A xs :=
  ⟨h1, h2, fun x hx => by have := h3 x hx; omega, fun x hx => by have := h3 x hx; omega, fun x hx m c h => (h2 x hx).gz m c h⟩
theorem evs_row {w0 w : World} {H : List It} {j n c : Nat} {A : Option Addr} {its : List It} {ys : List EV} (hs : St w0 H w) (hj : H[j]? = some (.row 34 33 (Value.slice A n c) n (ys.flatMap encEV))) (hn : n = ys.length) (hl : n ≤ 1000) (hh : Held w0 its ys) (hi : ∀ i ∈ its, i ∈ H) (h3 : ∀ x ∈ ys, x.1.name.size ≤ 60 ∧ x.1.grants.length ≤ 12) : Evs w A ys :=
  evs_of (sl_rowN hs hj hn (fun _ _ => rfl) (by omega)) (hh w H hs hi) h3
theorem srcEV {w : World} {A : Option Addr} {xs : List EV} {c : Nat} (h : Sl encEV 33 w A xs) (hc : A = none → c = 0) : (A = none ∧ xs.length = 0 ∧ c = 0) ∨ ∃ a, A = some a ∧ ∀ (j : Nat) u, (xs.flatMap encEV)[j]? = some u → w.cell? (a.add j) = some u := by
  cases A with
  | none =>
    rcases Nat.eq_zero_or_pos xs.length with h0 | hp
    · exact .inl ⟨rfl, h0, hc rfl⟩
    · obtain ⟨_, _, h4, _⟩ := h.at_ hp
      cases h4
  | some a =>
    refine .inr ⟨a, rfl, fun j u hj => ?_⟩
    have hp : 0 < xs.length := by
      cases xs with
      | nil => cases hj
      | cons _ _ => simp
    obtain ⟨b, off, e, _⟩ := h.at_ hp
    cases e
    exact h.flat (fun _ _ => rfl) (by decide) j u hj
theorem evcells_len (xs : List EV) : (xs.flatMap encEV).length = xs.length * 33 := by
  induction xs with
  | nil => rfl
  | cons x r ih => rw [List.flatMap_cons, List.length_append, ih, encEV_len, List.length_cons, Nat.succ_mul]; omega
theorem flat_snoc (ys : List EV) (y : EV) : (ys ++ [y]).flatMap encEV = ys.flatMap encEV ++ encEV y := by simp
theorem gcells_snoc (gs : List Gr) (g : Gr) : gcells (gs ++ [g]) = gcells gs ++ gcells [g] := by simp [gcells]
theorem all2_take {R : EV → EV → Prop} {xs ys : List EV} {k : Nat} {x y : EV} (h : All2 R (xs.take k) ys) (hx : xs[k]? = some x) (hr : R x y) : All2 R (xs.take (k + 1)) (ys ++ [y]) := by
  rw [take_snoc hx]
  exact h.snoc hr
theorem lim_snoc {p : EV → Prop} {xs : List EV} {k : Nat} {x : EV} (h : ∀ x ∈ xs.take k, p x) (hx : xs[k]? = some x) (hp : p x) : ∀ x ∈ xs.take (k + 1), p x := by
  intro y hy
  rw [take_snoc hx] at hy
  rcases List.mem_append.1 hy with hy | hy
  · exact h y hy
  · rw [List.mem_singleton.1 hy]; exact hp
theorem all2_lim {xs ys : List EV} (h : All2 (fun x y : EV => EUp x.1 y.1) xs ys) (hx : ∀ x ∈ xs, x.1.name.size ≤ 60 ∧ x.1.grants.length ≤ 12) : ∀ y ∈ ys, y.1.name.size ≤ 60 ∧ y.1.grants.length ≤ 12 := by
  induction h with
  | nil => intro y hy; cases hy
  | cons h t ih =>
    intro y hy
    rcases List.mem_cons.1 hy with rfl | hy
    · have := hx _ List.mem_cons_self
      rw [h.name, all2_len h.grants]; exact this
    · exact ih (fun x hx' => hx x (List.mem_cons_of_mem _ hx')) y hy

set_option maxRecDepth 100000 in
theorem topaccess_law (A0 : Option Addr) (c0 : Nat) (xs : List EV) (A1 : Option Addr) (c1 : Nat) (rise : List Int) (user : ByteArray) (A3 : Option Addr) (c3 : Nat) (groups : List ByteArray) (name : ByteArray) (m : E) (mva mvg : Value) (w : World) (hg : Good w) (hv0 : Sl encEV 33 w A0 xs) (he : ∀ x ∈ xs, EntAt w x.1 x.2.1 x.2.2) (hz0 : A0 = none → c0 = 0) (hr : Sl encB 1 w A1 rise) (hb : ∀ x ∈ rise, 0 ≤ x ∧ x < 256) (hgr : Sl encS 1 w A3 groups) (hm0 : EntAt w m mva mvg) :
    Calls Tryz.prog 8 #[.slice A0 xs.length c0, .slice A1 rise.length c1, .string user, .slice A3 groups.length c3, .string name, .agg (m.cells mva mvg)] w (RetV w (.bool true)) := by
  have hm := hm0
  obtain ⟨⟨Ama, cma, rfl, hcma, hrma⟩, ⟨Amg, cmg, rfl, hcmg, hrmg⟩⟩ := hm0
  refine enter Tryz.func8 rfl Tryz.ntmps8 rfl ?_
  refine WC.seq ?_
  refine WC.region ?_
  refine WL.box rfl rfl rfl (fun b7 => ?_)
  refine WL.box rfl rfl rfl (fun b11 => ?_)
  refine WL.p rfl rfl rfl (P.assign rfl) ?_
  refine WL.nil_ ?_
  refine End.seq ?_
  refine WC.seq ?_
  refine WC.seq ?_
  refine WC.region ?_
  refine WL.callv (ent_of Tryz.func37 rfl rfl) rfl rfl rfl (fun w hs => awakeBatch_any w (hg.st hs)) ?_
  refine WL.p rfl rfl rfl (P.not_ rfl) ?_
  refine WL.nil_ ?_
  refine End.seq ?_
  refine WC.condF rfl ?_
  refine WC.skip ?_
  refine End.seq ?_
  refine WC.seq ?_
  refine WC.seq ?_
  refine WC.region ?_
  refine WL.p rfl rfl rfl (P.move rfl) ?_
  refine WL.p rfl rfl rfl (P.lenR Tryz.underlying46 rfl) ?_
  refine WL.p rfl rfl rfl (P.cmp rfl rfl rfl) ?_
  refine WL.p rfl rfl rfl (P.move rfl) ?_
  refine WL.split 28 rfl (fun hs28 => ?_) (fun hs28 => ?_)
  ·
    refine WL.off rfl rfl ?_
    refine WL.off rfl rfl ?_
    refine WL.off rfl rfl ?_
    refine WL.p rfl rfl rfl (P.pickT rfl rfl) ?_
    refine WL.p rfl rfl rfl (P.move rfl) ?_
    refine WL.off rfl rfl ?_
    refine WL.off rfl rfl ?_
    refine WL.off rfl rfl ?_
    refine WL.p rfl rfl rfl (P.pickT rfl rfl) ?_
    refine WL.p rfl rfl rfl (P.move rfl) ?_
    refine WL.off rfl rfl ?_
    refine WL.off rfl rfl ?_
    refine WL.off rfl rfl ?_
    refine WL.p rfl rfl rfl (P.pickT rfl rfl) ?_
    refine WL.p rfl rfl rfl (P.move rfl) ?_
    refine WL.off rfl rfl ?_
    refine WL.off rfl rfl ?_
    refine WL.off rfl rfl ?_
    refine WL.off rfl rfl ?_
    refine WL.p rfl rfl rfl (P.pickT rfl rfl) ?_
    refine WL.p rfl rfl rfl (P.move rfl) ?_
    refine WL.off rfl rfl ?_
    refine WL.off rfl rfl ?_
    refine WL.off rfl rfl ?_
    refine WL.off rfl rfl ?_
    refine WL.p rfl rfl rfl (P.pickT rfl rfl) ?_
    refine WL.nil_ ?_
    refine End.seq ?_
    refine WC.condT rfl ?_
    refine WC.seq ?_
    refine WC.region ?_
    refine WL.p rfl rfl rfl (P.assign rfl) ?_
    refine WL.nil_ ?_
    refine End.seq ?_
    refine WC.ret ?_
    refine End.thenR ?_
    refine End.ret1 rfl rfl ?_
    exact fun w' hs' => RetV.of rfl hs'
  ·
    refine WL.p rfl rfl rfl (P.move rfl) ?_
    refine WL.p rfl rfl rfl (P.lenR Tryz.underlying48 rfl) ?_
    refine WL.p rfl rfl rfl (P.cmp rfl rfl rfl) ?_
    refine WL.p rfl rfl rfl (P.pickF rfl rfl) ?_
    refine WL.p rfl rfl rfl (P.move rfl) ?_
    refine WL.split 33 rfl (fun hs33 => ?_) (fun hs33 => ?_)
    ·
      refine WL.off rfl rfl ?_
      refine WL.off rfl rfl ?_
      refine WL.off rfl rfl ?_
      refine WL.p rfl rfl rfl (P.pickT rfl rfl) ?_
      refine WL.p rfl rfl rfl (P.move rfl) ?_
      refine WL.off rfl rfl ?_
      refine WL.off rfl rfl ?_
      refine WL.off rfl rfl ?_
      refine WL.p rfl rfl rfl (P.pickT rfl rfl) ?_
      refine WL.p rfl rfl rfl (P.move rfl) ?_
      refine WL.off rfl rfl ?_
      refine WL.off rfl rfl ?_
      refine WL.off rfl rfl ?_
      refine WL.off rfl rfl ?_
      refine WL.p rfl rfl rfl (P.pickT rfl rfl) ?_
      refine WL.p rfl rfl rfl (P.move rfl) ?_
      refine WL.off rfl rfl ?_
      refine WL.off rfl rfl ?_
      refine WL.off rfl rfl ?_
      refine WL.off rfl rfl ?_
      refine WL.p rfl rfl rfl (P.pickT rfl rfl) ?_
      refine WL.nil_ ?_
      refine End.seq ?_
      refine WC.condT rfl ?_
      refine WC.seq ?_
      refine WC.region ?_
      refine WL.p rfl rfl rfl (P.assign rfl) ?_
      refine WL.nil_ ?_
      refine End.seq ?_
      refine WC.ret ?_
      refine End.thenR ?_
      refine End.ret1 rfl rfl ?_
      exact fun w' hs' => RetV.of rfl hs'
    ·
      refine WL.p rfl rfl rfl (P.move rfl) ?_
      refine WL.p rfl rfl rfl (P.lenS Tryz.underlying9 rfl) ?_
      refine WL.p rfl rfl rfl (P.cmp rfl rfl rfl) ?_
      refine WL.p rfl rfl rfl (P.pickF rfl rfl) ?_
      refine WL.p rfl rfl rfl (P.move rfl) ?_
      refine WL.split 38 rfl (fun hs38 => ?_) (fun hs38 => ?_)
      ·
        refine WL.off rfl rfl ?_
        refine WL.off rfl rfl ?_
        refine WL.off rfl rfl ?_
        refine WL.p rfl rfl rfl (P.pickT rfl rfl) ?_
        refine WL.p rfl rfl rfl (P.move rfl) ?_
        refine WL.off rfl rfl ?_
        refine WL.off rfl rfl ?_
        refine WL.off rfl rfl ?_
        refine WL.off rfl rfl ?_
        refine WL.p rfl rfl rfl (P.pickT rfl rfl) ?_
        refine WL.p rfl rfl rfl (P.move rfl) ?_
        refine WL.off rfl rfl ?_
        refine WL.off rfl rfl ?_
        refine WL.off rfl rfl ?_
        refine WL.off rfl rfl ?_
        refine WL.p rfl rfl rfl (P.pickT rfl rfl) ?_
        refine WL.nil_ ?_
        refine End.seq ?_
        refine WC.condT rfl ?_
        refine WC.seq ?_
        refine WC.region ?_
        refine WL.p rfl rfl rfl (P.assign rfl) ?_
        refine WL.nil_ ?_
        refine End.seq ?_
        refine WC.ret ?_
        refine End.thenR ?_
        refine End.ret1 rfl rfl ?_
        exact fun w' hs' => RetV.of rfl hs'
      ·
        refine WL.p rfl rfl rfl (P.move rfl) ?_
        refine WL.p rfl rfl rfl (P.lenS Tryz.underlying9 rfl) ?_
        refine WL.p rfl rfl rfl (P.cmp rfl rfl rfl) ?_
        refine WL.p rfl rfl rfl (P.pickF rfl rfl) ?_
        refine WL.p rfl rfl rfl (P.move rfl) ?_
        refine WL.split 43 rfl (fun hs43 => ?_) (fun hs43 => ?_)
        ·
          refine WL.off rfl rfl ?_
          refine WL.off rfl rfl ?_
          refine WL.off rfl rfl ?_
          refine WL.off rfl rfl ?_
          refine WL.p rfl rfl rfl (P.pickT rfl rfl) ?_
          refine WL.p rfl rfl rfl (P.move rfl) ?_
          refine WL.off rfl rfl ?_
          refine WL.off rfl rfl ?_
          refine WL.off rfl rfl ?_
          refine WL.off rfl rfl ?_
          refine WL.p rfl rfl rfl (P.pickT rfl rfl) ?_
          refine WL.nil_ ?_
          refine End.seq ?_
          refine WC.condT rfl ?_
          refine WC.seq ?_
          refine WC.region ?_
          refine WL.p rfl rfl rfl (P.assign rfl) ?_
          refine WL.nil_ ?_
          refine End.seq ?_
          refine WC.ret ?_
          refine End.thenR ?_
          refine End.ret1 rfl rfl ?_
          exact fun w' hs' => RetV.of rfl hs'
        ·
          refine WL.p rfl rfl rfl (P.fieldAddr fa_34_1 rfl) ?_
          refine WL.p rfl rfl rfl (P.loadO 0 Tryz.isAgg9 rfl rfl rfl) ?_
          refine WL.p rfl rfl rfl (P.lenS Tryz.underlying9 rfl) ?_
          refine WL.p rfl rfl rfl (P.cmp rfl rfl rfl) ?_
          refine WL.p rfl rfl rfl (P.pickF rfl rfl) ?_
          refine WL.p rfl rfl rfl (P.move rfl) ?_
          refine WL.split 49 rfl (fun hs49 => ?_) (fun hs49 => ?_)
          ·
            refine WL.off rfl rfl ?_
            refine WL.off rfl rfl ?_
            refine WL.off rfl rfl ?_
            refine WL.off rfl rfl ?_
            refine WL.p rfl rfl rfl (P.pickT rfl rfl) ?_
            refine WL.nil_ ?_
            refine End.seq ?_
            refine WC.condT rfl ?_
            refine WC.seq ?_
            refine WC.region ?_
            refine WL.p rfl rfl rfl (P.assign rfl) ?_
            refine WL.nil_ ?_
            refine End.seq ?_
            refine WC.ret ?_
            refine End.thenR ?_
            refine End.ret1 rfl rfl ?_
            exact fun w' hs' => RetV.of rfl hs'
          ·
            refine WL.p rfl rfl rfl (P.fieldAddr fa_34_12 rfl) ?_
            refine WL.p rfl rfl rfl (P.loadO 0 Tryz.isAgg32 rfl rfl rfl) ?_
            refine WL.p rfl rfl rfl (P.lenR Tryz.underlying32 rfl) ?_
            refine WL.p rfl rfl rfl (P.cmp rfl rfl rfl) ?_
            refine WL.p rfl rfl rfl (P.pickF rfl rfl) ?_
            refine WL.nil_ ?_
            refine End.seq ?_
            refine WC.cond rfl (fun hc54 => ?_) (fun hc54 => ?_)
            ·
              refine WC.seq ?_
              refine WC.region ?_
              refine WL.p rfl rfl rfl (P.assign rfl) ?_
              refine WL.nil_ ?_
              refine End.seq ?_
              refine WC.ret ?_
              refine End.thenR ?_
              refine End.ret1 rfl rfl ?_
              exact fun w' hs' => RetV.of rfl hs'
            ·
              have hn1 : xs.length ≤ 10 := by have := of_decide_eq_false hs28; omega
              have hm1 : m.name.size ≤ 60 := by have := of_decide_eq_false hs49; omega
              have hm2 : m.grants.length ≤ 12 := by have := of_decide_eq_false hc54; omega
              refine WC.skip ?_
              refine End.seq ?_
              refine WC.seq ?_
              refine WC.region ?_
              refine WL.p rfl rfl rfl (P.makeFunc rfl) ?_
              refine WL.p rfl rfl rfl (P.assign rfl) ?_
              refine WL.nil_ ?_
              refine End.seq ?_
              refine WC.seq ?_
              refine WC.region ?_
              refine WL.p rfl rfl rfl (P.assign rfl) ?_
              refine WL.nil_ ?_
              refine End.seq ?_
              refine WC.seq ?_
              refine WC.region ?_
              refine WL.p rfl rfl rfl (P.assign rfl) ?_
              refine WL.nil_ ?_
              refine End.seq ?_
              refine WC.seq ?_
              refine WC.seq ?_
              refine WC.region ?_
              refine WL.p rfl rfl rfl (P.move rfl) ?_
              refine WL.p rfl rfl rfl (P.lenR Tryz.underlying46 rfl) ?_
              refine WL.p rfl rfl rfl (P.move rfl) ?_
              refine WL.nil_ ?_
              refine End.seq ?_
              refine WC.block ?_
              refine WC.rowNil 34 33 ?_
              refine WC.loopD (σ := Nat × Int × Value × List EV × List It) (fun (k, cnt, v, ys, its) => [(58, .int .i64 (k : Nat)), (15, .int .i64 cnt), (14, v)]) (fun (k, cnt, v, ys, its) => .row 34 33 v k (ys.flatMap encEV) :: .blk b11 34 (m.cells (Value.slice Ama m.alt.length cma) (Value.slice Amg m.grants.length cmg)) :: .blk b7 47 #[.slice A1 rise.length c1] :: its) (fun (k, cnt, v, ys, its) => k ≤ xs.length ∧ (0 ≤ cnt ∧ cnt ≤ 100 * k) ∧ ys.length = k ∧ All2 (fun x y : EV => EUp x.1 y.1) (xs.take k) ys ∧ (∀ x ∈ xs.take k, x.1.name.size ≤ 60 ∧ x.1.grants.length ≤ 12) ∧ Held w its ys) (fun (k, cnt, v, ys, its) => xs.length - k) (0, 0, .slice none 0 0, [], []) ⟨Nat.zero_le _, ⟨by decide, by decide⟩, rfl, .nil, fun _ h => (by cases h), Held.nil _⟩ (Env.sub_cons rfl (Env.sub_cons rfl (Env.sub_cons rfl (Env.sub_nil)))) (List.range _) selOk_range (sel_range.trans rfl) ?_
              rintro ⟨k, cnt, v, ys, its⟩ ⟨hk, hcnt, hyl, hup, hlim, hheld⟩
              simp only at hk hcnt hyl hup hlim hheld ⊢
              refine WC.seq ?_
              refine WC.region ?_
              refine WL.p rfl rfl rfl (P.cmp rfl rfl rfl) ?_
              refine WL.nil_ ?_
              refine End.seq ?_
              refine WC.seq ?_
              refine WC.cond rfl (fun hc59 => ?_) (fun hc59 => ?_)
              ·
                have hkl : k < xs.length := by have := of_decide_eq_true hc59; omega
                obtain ⟨b, off, rfl, _⟩ := hv0.at_ (by omega)
                obtain ⟨⟨e, va, vg⟩, hx⟩ := get_of_lt hkl
                have hxm := List.mem_of_getElem? hx
                have hent : EntAt w e va vg := he _ hxm
                have hent0 := hent
                obtain ⟨⟨Aa, ca, rfl, hca, hra⟩, ⟨Ag, cg, rfl, hcg, hrg⟩⟩ := hent
                refine WC.skip ?_
                refine End.seq ?_
                refine WC.seq ?_
                refine WC.block ?_
                refine WC.seq ?_
                refine WC.region ?_
                refine WL.p rfl rfl rfl (P.elemAddr Tryz.underlying46 Tryz.sizeOf34 rfl rfl (by omega) (by omega)) ?_
                refine WL.p rfl rfl rfl (P.loadBA (vs := e.cells (Value.slice Aa e.alt.length ca) (Value.slice Ag e.grants.length cg)) Tryz.isAgg34 Tryz.sizeOf34 rfl rfl (fun j v h => evs_cell hv0 hx h)) ?_
                refine WL.alloc Tryz.zeroValue34 rfl rfl (fun b17 => ?_)
                refine WL.storeW 0 Tryz.sizeOf34 rfl rfl rfl (E.one _ rfl rfl) rfl rfl rfl ?_
                refine WL.nil_ ?_
                refine End.seq ?_
                refine WC.seq ?_
                refine WC.seq ?_
                refine WC.region ?_
                refine WL.p rfl rfl rfl (P.fieldAddr fa_34_1 rfl) ?_
                refine WL.p rfl rfl rfl (P.loadO 0 Tryz.isAgg9 rfl rfl rfl) ?_
                refine WL.p rfl rfl rfl (P.lenS Tryz.underlying9 rfl) ?_
                refine WL.p rfl rfl rfl (P.cmp rfl rfl rfl) ?_
                refine WL.p rfl rfl rfl (P.move rfl) ?_
                refine WL.split 66 rfl (fun hs66 => ?_) (fun hs66 => ?_)
                ·
                  refine WL.off rfl rfl ?_
                  refine WL.off rfl rfl ?_
                  refine WL.off rfl rfl ?_
                  refine WL.off rfl rfl ?_
                  refine WL.p rfl rfl rfl (P.pickT rfl rfl) ?_
                  refine WL.nil_ ?_
                  refine End.seq ?_
                  refine WC.condT rfl ?_
                  refine WC.seq ?_
                  refine WC.region ?_
                  refine WL.p rfl rfl rfl (P.assign rfl) ?_
                  refine WL.nil_ ?_
                  refine End.seq ?_
                  refine WC.ret ?_
                  refine End.thenR ?_
                  refine End.blkR ?_
                  refine End.thenR ?_
                  refine End.thenR ?_
                  refine End.blkR ?_
                  refine End.thenR ?_
                  refine End.ret1 rfl rfl ?_
                  exact fun w' hs' => RetV.of rfl hs'
                ·
                  refine WL.p rfl rfl rfl (P.fieldAddr fa_34_12 rfl) ?_
                  refine WL.p rfl rfl rfl (P.loadO 0 Tryz.isAgg32 rfl rfl rfl) ?_
                  refine WL.p rfl rfl rfl (P.lenR Tryz.underlying32 rfl) ?_
                  refine WL.p rfl rfl rfl (P.cmp rfl rfl rfl) ?_
                  refine WL.p rfl rfl rfl (P.pickF rfl rfl) ?_
                  refine WL.nil_ ?_
                  refine End.seq ?_
                  refine WC.cond rfl (fun hc71 => ?_) (fun hc71 => ?_)
                  ·
                    refine WC.seq ?_
                    refine WC.region ?_
                    refine WL.p rfl rfl rfl (P.assign rfl) ?_
                    refine WL.nil_ ?_
                    refine End.seq ?_
                    refine WC.ret ?_
                    refine End.thenR ?_
                    refine End.blkR ?_
                    refine End.thenR ?_
                    refine End.thenR ?_
                    refine End.blkR ?_
                    refine End.thenR ?_
                    refine End.ret1 rfl rfl ?_
                    exact fun w' hs' => RetV.of rfl hs'
                  ·
                    have hl1 : e.name.size ≤ 60 ∧ e.grants.length ≤ 12 := by have := of_decide_eq_false hs66; have := of_decide_eq_false hc71; omega
                    refine WC.skip ?_
                    refine End.seq ?_
                    refine WC.seq ?_
                    refine WC.seq ?_
                    refine WC.region ?_
                    refine WL.p rfl rfl rfl (P.fieldAddr fa_34_0 rfl) ?_
                    refine WL.p rfl rfl rfl (P.loadO 0 Tryz.isAgg3 rfl rfl rfl) ?_
                    refine WL.p rfl rfl rfl (P.cmp rfl rfl rfl) ?_
                    refine WL.nil_ ?_
                    refine End.seq ?_
                    refine WC.cond rfl (fun hc74 => ?_) (fun hc74 => ?_)
                    ·
                      have hk4 : e.kind = 4 := by simpa using hc74
                      refine WC.seq ?_
                      refine WC.region ?_
                      refine WL.p rfl rfl rfl (P.assign rfl) ?_
                      refine WL.nil_ ?_
                      refine End.seq ?_
                      refine WC.seq ?_
                      refine WC.region ?_
                      refine WL.p rfl rfl rfl (P.loadW 0 Tryz.isAgg34 Tryz.sizeOf34 rfl rfl rfl) ?_
                      refine WL.alloc Tryz.zeroValue34 rfl rfl (fun b19 => ?_)
                      refine WL.storeW 0 Tryz.sizeOf34 rfl rfl rfl rfl rfl rfl rfl ?_
                      refine WL.nil_ ?_
                      refine End.seq ?_
                      refine WC.seq ?_
                      refine WC.region ?_
                      refine WL.p rfl rfl rfl (P.move rfl) ?_
                      refine WL.p rfl rfl rfl (P.fieldAddr fa_34_11 rfl) ?_
                      refine WL.p rfl rfl rfl (P.loadO 1 Tryz.isAgg3 rfl rfl rfl) ?_
                      refine WL.p rfl rfl rfl (P.move rfl) ?_
                      refine WL.callc (ent_of Tryz.func38 rfl rfl) rfl rfl rfl rfl (fun w hs => rise_any e.level cnt b7 A1 c1 rise w (cell_own hs (j := 4) rfl rfl (Below.refl _ _)) (hr.st hs) hb (by omega)) ?_
                      refine WL.p rfl rfl rfl (P.fieldAddr fa_34_11 rfl) ?_
                      refine WL.store 0 Tryz.sizeOf3 rfl rfl rfl rfl rfl rfl ?_
                      refine WL.nil_ ?_
                      refine End.seq ?_
                      refine WC.seq ?_
                      refine WC.seq ?_
                      refine WC.region ?_
                      refine WL.p rfl rfl rfl (P.fieldAddr fa_34_12 rfl) ?_
                      refine WL.p rfl rfl rfl (P.loadO 1 Tryz.isAgg32 rfl rfl rfl) ?_
                      refine WL.p rfl rfl rfl (P.lenR Tryz.underlying32 rfl) ?_
                      refine WL.p rfl rfl rfl (P.move rfl) ?_
                      refine WL.nil_ ?_
                      refine End.seq ?_
                      refine WC.block ?_
                      refine WC.rowNil 51 3 ?_
                      refine WC.loopD (σ := Nat × Int × Value × List Gr) (fun (j, cn, vg2, gs) => [(85, .int .i64 (j : Nat)), (15, .int .i64 cn), (18, vg2)]) (fun (j, cn, vg2, gs) => .row 51 3 vg2 j (gcells gs) :: .blk b19 34 (({ e with level := riseP rise e.level cnt } : E).cells (Value.slice Aa e.alt.length ca) (Value.slice Ag e.grants.length cg)) :: .blk b17 34 (e.cells (Value.slice Aa e.alt.length ca) (Value.slice Ag e.grants.length cg)) :: .row 34 33 v k (ys.flatMap encEV) :: .blk b11 34 (m.cells (Value.slice Ama m.alt.length cma) (Value.slice Amg m.grants.length cmg)) :: .blk b7 47 #[.slice A1 rise.length c1] :: its) (fun (j, cn, vg2, gs) => j ≤ e.grants.length ∧ All2 GrRise (e.grants.take j) gs ∧ (cnt ≤ cn ∧ cn ≤ cnt + j)) (fun (j, cn, vg2, gs) => e.grants.length - j) (0, cnt, .slice none 0 0, []) ⟨Nat.zero_le _, .nil, ⟨Int.le_refl _, by simp⟩⟩ (Env.sub_cons rfl (Env.sub_cons rfl (Env.sub_cons rfl (Env.sub_nil)))) (List.range _) selOk_range (sel_range.trans rfl) ?_
                      rintro ⟨j, cn, vg2, gs⟩ ⟨hj, hgu, hcn⟩
                      simp only at hj hgu hcn ⊢
                      refine WC.seq ?_
                      refine WC.region ?_
                      refine WL.p rfl rfl rfl (P.cmp rfl rfl rfl) ?_
                      refine WL.nil_ ?_
                      refine End.seq ?_
                      refine WC.seq ?_
                      refine WC.cond rfl (fun hc86 => ?_) (fun hc86 => ?_)
                      ·
                        have hjl : j < e.grants.length := by have := of_decide_eq_true hc86; omega
                        obtain ⟨bg, og, rfl, hcg2⟩ := hrg.at_ (by omega)
                        obtain ⟨g, hgj⟩ := get_of_lt hjl
                        refine WC.skip ?_
                        refine End.seq ?_
                        refine WC.seq ?_
                        refine WC.block ?_
                        refine WC.seq ?_
                        refine WC.region ?_
                        refine WL.p rfl rfl rfl (P.elemAddr Tryz.underlying32 Tryz.sizeOf51 rfl rfl (by omega) (by omega)) ?_
                        refine WL.p rfl rfl rfl (P.loadBA (vs := g.cells.toArray) Tryz.isAgg51 Tryz.sizeOf51 rfl rfl (fun i v h => hcg2 j g hgj i v (by simpa using h))) ?_
                        refine WL.alloc Tryz.zeroValue51 rfl rfl (fun b21 => ?_)
                        refine WL.storeW 0 Tryz.sizeOf51 rfl rfl rfl rfl rfl rfl rfl ?_
                        refine WL.nil_ ?_
                        refine End.seq ?_
                        refine WC.seq ?_
                        refine WC.region ?_
                        refine WL.p rfl rfl rfl (P.move rfl) ?_
                        refine WL.p rfl rfl rfl (P.ari64 rfl rfl rfl (by omega)) ?_
                        refine WL.p rfl rfl rfl (P.assign rfl) ?_
                        refine WL.nil_ ?_
                        refine End.seq ?_
                        refine WC.nil1 ?_
                        apply WC.draws2 (al := [11, 12]) (vs := [_, _, _, _, _, _, _, _, _, _, _, fun s => .slice (some ⟨(s 11).1, 0, none⟩) 1 1, fun s => .slice (some ⟨(s 12).1, 0, none⟩) (j + 1) (s 12).2, _]) (Hs := fun v HH b s => (bnew (b 12) (.row 51 3 (.slice (some ⟨(s 12).1, 0, none⟩) (j + 1) (s 12).2) (j + 1) (gcells gs ++ gcells [(⟨g.who, g.group, riseP rise g.level (cn + 1)⟩ : Gr)])) (bnew (b 11) (It.blk (s 11).1 51 (⟨g.who, g.group, riseP rise g.level (cn + 1)⟩ : Gr).cells.toArray) HH 0) 2)) (by kernel_rfl) (by kernel_rfl) (by kernel_rfl)
                        case steps =>
                          refine Stps2.cons (Stp.p (fun b s hd => ⟨_, ⟨rfl, P.move rfl⟩, rfl, rfl⟩)) ?_
                          refine Stps2.cons (Stp.p (fun b s hd => ⟨_, ⟨rfl, P.fieldAddr fa_51_0 rfl⟩, rfl, rfl⟩)) ?_
                          refine Stps2.cons (Stp.p (fun b s hd => ⟨_, ⟨rfl, P.loadO 1 Tryz.isAgg9 rfl rfl rfl⟩, rfl, rfl⟩)) ?_
                          refine Stps2.cons (Stp.p (fun b s hd => ⟨_, ⟨rfl, P.fieldAddr fa_51_1 rfl⟩, rfl, rfl⟩)) ?_
                          refine Stps2.cons (Stp.p (fun b s hd => ⟨_, ⟨rfl, P.loadO 1 Tryz.isAgg4 rfl rfl rfl⟩, rfl, rfl⟩)) ?_
                          refine Stps2.cons (Stp.p (fun b s hd => ⟨_, ⟨rfl, P.move rfl⟩, rfl, rfl⟩)) ?_
                          refine Stps2.cons (Stp.p (fun b s hd => ⟨_, ⟨rfl, P.fieldAddr fa_51_2 rfl⟩, rfl, rfl⟩)) ?_
                          refine Stps2.cons (Stp.p (fun b s hd => ⟨_, ⟨rfl, P.loadO 1 Tryz.isAgg3 rfl rfl rfl⟩, rfl, rfl⟩)) ?_
                          refine Stps2.cons (Stp.p (fun b s hd => ⟨_, ⟨rfl, P.move rfl⟩, rfl, rfl⟩)) ?_
                          refine Stps2.cons (Stp.call (ent_of Tryz.func38 rfl rfl) (fun b s hd => ⟨_, _, _, rfl, rfl, rfl, fun w hs => rise_any g.level (cn + 1) b7 A1 c1 rise w (cell_own hs (j := 7) rfl rfl (Below.refl _ _)) (hr.st hs) hb (by omega), rfl, rfl⟩)) ?_
                          refine Stps2.cons (Stp.p (fun b s hd => ⟨_, ⟨rfl, P.build rfl (fun w => bo_51 Tryz.zeroValue51 (cs := #[_, _, _]) rfl rfl w)⟩, rfl, rfl⟩)) ?_
                          refine Stps2.cons (Stp.row 0 rfl (fun b s => ⟨rfl, _, _, rfl, fun w => by refine run_rowL Tryz.underlying32 Tryz.sizeOf51 Tryz.zeroValue51 ?_ ?_ ?_ ?_ ?_ ?_ w <;> rfl, fun q => ⟨rfl, _, rfl, fun hb => rfl⟩⟩)) ?_
                          refine Stps2.cons (Stp.appendD 2 (l := j) (m := 1) (xs := gcells gs) (news := gcells [(⟨g.who, g.group, riseP rise g.level (cn + 1)⟩ : Gr)]) el32 rfl (by decide) rfl (gcells_one _) (by unfold maxLen; omega) (by omega) (fun b s hd => ⟨_, _, rfl, rfl, rfl, fun w hs => news_blk hs (j := 0) (by have h11 := hd 11 (by decide); simp only [bnew, h11, cond_true]; rfl) rfl, ⟨_, rfl⟩, fun q => ⟨rfl, fun hb => rfl⟩⟩)) ?_
                          refine Stps2.cons (Stp.p (fun b s hd => ⟨_, ⟨rfl, P.assign rfl⟩, rfl, rfl⟩)) ?_
                          exact Stps2.nil
                        case h0 => exact fun s => rfl
                        case agree => exact AgrAll.cons (AgrL.no (fun s x => rfl) (AgrL.no (fun s x => rfl) (AgrL.no (fun s x => rfl) (AgrL.no (fun s x => rfl) (AgrL.no (fun s x => rfl) (AgrL.no (fun s x => rfl) (AgrL.no (fun s x => rfl) (AgrL.no (fun s x => rfl) (AgrL.no (fun s x => rfl) (AgrL.no (fun s x => rfl) (AgrL.no (fun s x => rfl) (AgrL.yes (by kernel_rfl) (AgrL.yes (by kernel_rfl) (AgrL.yes (by kernel_rfl) (AgrL.nil))))))))))))))) (AgrAll.cons (AgrL.no (fun s x => rfl) (AgrL.no (fun s x => rfl) (AgrL.no (fun s x => rfl) (AgrL.no (fun s x => rfl) (AgrL.no (fun s x => rfl) (AgrL.no (fun s x => rfl) (AgrL.no (fun s x => rfl) (AgrL.no (fun s x => rfl) (AgrL.no (fun s x => rfl) (AgrL.no (fun s x => rfl) (AgrL.no (fun s x => rfl) (AgrL.no (fun s x => rfl) (AgrL.yes (by kernel_rfl) (AgrL.yes (by kernel_rfl) (AgrL.nil))))))))))))))) (AgrAll.nil))
                        intro s21
                        refine End.shapeD (by kernel_rfl) (new := [(18, _), (91, _), (92, _), (93, _), (94, _), (95, _), (96, _), (97, _), (98, _), (99, _), (100, _), (101, _), (102, _), (103, _)]) (H' := _ :: _ :: _ :: _ :: _ :: _ :: _ :: _ :: _) (Env.sub_cons rfl (Env.sub_cons rfl (Env.sub_cons rfl (Env.sub_cons rfl (Env.sub_cons rfl (Env.sub_cons rfl (Env.sub_cons rfl (Env.sub_cons rfl (Env.sub_cons rfl (Env.sub_cons rfl (Env.sub_cons rfl (Env.sub_cons rfl (Env.sub_cons rfl (Env.sub_cons rfl (Env.sub_nil))))))))))))))) rfl ?_
                        refine End.blkN ?_
                        refine End.seq ?_
                        refine WC.region ?_
                        refine WL.p rfl rfl rfl (P.ari64 rfl rfl rfl (by omega)) ?_
                        refine WL.p rfl rfl rfl (P.move rfl) ?_
                        refine WL.nil_ ?_
                        refine End.cutT [2, 3, 4, 5, 6, 7] 8 rfl ?_
                        refine End.againD (j + 1, cn + 1, .slice (some ⟨(s21 12).1, 0, none⟩) (j + 1) (s21 12).2, gs ++ [(⟨g.who, g.group, riseP rise g.level (cn + 1)⟩ : Gr)]) ?_ ?_ rfl (Env.sub_cons rfl (Env.sub_cons rfl (Env.sub_cons rfl (Env.sub_nil)))) rfl (List.range _) selOk_range (sel_range.trans (by show _ = It.row 51 3 _ (j + 1) (gcells (gs ++ [(⟨g.who, g.group, riseP rise g.level (cn + 1)⟩ : Gr)])) :: _; rw [gcells_snoc]; rfl))
                        · exact ⟨by omega, by rw [take_snoc hgj]; exact hgu.snoc ⟨rfl, rfl, rise_up (fun x h => (hb x h).1) _ _⟩, ⟨by show cnt ≤ cn + 1; omega, by show cn + 1 ≤ cnt + ((j + 1 : Nat) : Int); omega⟩⟩
                        · show e.grants.length - (j + 1) < e.grants.length - j; omega
                      ·
                        have ej : j = e.grants.length := by have := of_decide_eq_false hc86; omega
                        rw [ej, List.take_length] at hgu
                        have hgl := all2_len hgu
                        refine WC.exit ?_
                        refine End.thenX ?_
                        refine End.thenX ?_
                        refine End.blkX ?_
                        refine End.seq ?_
                        refine WC.seq ?_
                        refine WC.region ?_
                        refine WL.p rfl rfl rfl (P.move rfl) ?_
                        refine WL.p rfl rfl rfl (P.fieldAddr fa_34_12 rfl) ?_
                        refine WL.know (φ := vg2.oneCell' = true) (fun w hs => row_one hs (j := 0) rfl) (fun hone => ?_)
                        refine WL.store 1 Tryz.sizeOf32 rfl rfl rfl hone rfl rfl ?_
                        refine WL.cast (H' := .row 51 3 vg2 j (gcells gs) :: .blk b19 34 (({ e with level := riseP rise e.level cnt, grants := gs } : E).cells (Value.slice Aa e.alt.length ca) vg2) :: _) rfl ?_
                        refine WL.nil_ ?_
                        refine End.seq ?_
                        refine WC.region ?_
                        refine WL.p rfl rfl rfl (P.loadW 1 Tryz.isAgg34 Tryz.sizeOf34 rfl rfl rfl) ?_
                        refine WL.storeW 2 Tryz.sizeOf34 rfl rfl rfl (E.one _ rfl hone) rfl rfl rfl ?_
                        refine WL.nil_ ?_
                        refine End.seq ?_
                        refine WC.seq ?_
                        refine WC.region ?_
                        refine WL.p rfl rfl rfl (P.move rfl) ?_
                        refine WL.p rfl rfl rfl (P.ari64 rfl rfl rfl (by omega)) ?_
                        refine WL.p rfl rfl rfl (P.assign rfl) ?_
                        refine WL.nil_ ?_
                        refine End.seq ?_
                        refine WC.region ?_
                        refine WL.p rfl rfl rfl (P.move rfl) ?_
                        refine WL.p rfl rfl rfl (P.loadW 2 Tryz.isAgg34 Tryz.sizeOf34 rfl rfl rfl) ?_
                        refine WL.row Tryz.underlying46 Tryz.sizeOf34 Tryz.zeroValue34 rfl rfl rfl rfl rfl rfl rfl rfl rfl (fun b112 => ?_)
                        refine WL.push 4 (l := k) (m := 1) (lt := k + 1) (xs := ys.flatMap encEV) (news := encEV (({ e with level := riseP rise e.level cnt, grants := gs } : E), Value.slice Aa e.alt.length ca, vg2)) (all := (ys ++ [(({ e with level := riseP rise e.level cnt, grants := gs } : E), Value.slice Aa e.alt.length ca, vg2)]).flatMap encEV) el46 rfl rfl rfl rfl rfl rfl (fun w hs => news_blk hs (j := 0) rfl rfl) (encEV_one rfl hone) (flat_snoc _ _).symm rfl (by decide) (by unfold maxLen; omega) (by omega) (fun q cap hq => ?_)
                        refine WL.p rfl rfl rfl (P.assign rfl) ?_
                        refine WL.nil_ ?_
                        refine End.blkN ?_
                        refine End.seq ?_
                        refine WC.region ?_
                        refine WL.p rfl rfl rfl (P.ari64 rfl rfl rfl (by omega)) ?_
                        refine WL.p rfl rfl rfl (P.move rfl) ?_
                        refine WL.nil_ ?_
                        refine End.cutT [4, 5, 6, 1] 7 rfl ?_
                        refine End.againD (k + 1, cn + 1, .slice (some ⟨q, 0, none⟩) (k + 1) cap, ys ++ [(({ e with level := riseP rise e.level cnt, grants := gs } : E), Value.slice Aa e.alt.length ca, vg2)], .row 51 3 vg2 j (gcells gs) :: its) ?_ ?_ rfl (Env.sub_cons rfl (Env.sub_cons rfl (Env.sub_cons rfl (Env.sub_nil)))) rfl (List.range _) selOk_range (sel_range.trans rfl)
                        · exact ⟨by omega, ⟨by show 0 ≤ cn + 1; omega, by show cn + 1 ≤ 100 * ((k + 1 : Nat) : Int); omega⟩, by simp [hyl], all2_take hup hx (eup_rise hk4 (rise_up (fun x h => (hb x h).1) _ _) hgu), lim_snoc hlim hx hl1, hheld.new ⟨Aa, ca, rfl, hca, hra⟩ (GrS.of (ej.trans hgl.symm) rfl hone (by show gs.length ≤ 100000; omega))⟩
                        · show xs.length - (k + 1) < xs.length - k; omega
                    ·
                      refine WC.skip ?_
                      refine End.seq ?_
                      refine WC.seq ?_
                      refine WC.region ?_
                      refine WL.p rfl rfl rfl (P.move rfl) ?_
                      refine WL.p rfl rfl rfl (P.ari64 rfl rfl rfl (by omega)) ?_
                      refine WL.p rfl rfl rfl (P.assign rfl) ?_
                      refine WL.nil_ ?_
                      refine End.seq ?_
                      refine WC.region ?_
                      refine WL.p rfl rfl rfl (P.move rfl) ?_
                      refine WL.p rfl rfl rfl (P.loadW 0 Tryz.isAgg34 Tryz.sizeOf34 rfl rfl rfl) ?_
                      refine WL.row Tryz.underlying46 Tryz.sizeOf34 Tryz.zeroValue34 rfl rfl rfl rfl rfl rfl rfl rfl rfl (fun b112 => ?_)
                      refine WL.push 2 (l := k) (m := 1) (lt := k + 1) (xs := ys.flatMap encEV) (news := encEV (e, Value.slice Aa e.alt.length ca, Value.slice Ag e.grants.length cg)) (all := (ys ++ [(e, Value.slice Aa e.alt.length ca, Value.slice Ag e.grants.length cg)]).flatMap encEV) el46 rfl rfl rfl rfl rfl rfl (fun w hs => news_blk hs (j := 0) rfl rfl) (encEV_one rfl rfl) (flat_snoc _ _).symm rfl (by decide) (by unfold maxLen; omega) (by omega) (fun q cap hq => ?_)
                      refine WL.p rfl rfl rfl (P.assign rfl) ?_
                      refine WL.nil_ ?_
                      refine End.blkN ?_
                      refine End.seq ?_
                      refine WC.region ?_
                      refine WL.p rfl rfl rfl (P.ari64 rfl rfl rfl (by omega)) ?_
                      refine WL.p rfl rfl rfl (P.move rfl) ?_
                      refine WL.nil_ ?_
                      refine End.cutT [2, 3, 4] 5 rfl ?_
                      refine End.againD (k + 1, cnt + 1, .slice (some ⟨q, 0, none⟩) (k + 1) cap, ys ++ [(e, Value.slice Aa e.alt.length ca, Value.slice Ag e.grants.length cg)], its) ?_ ?_ rfl (Env.sub_cons rfl (Env.sub_cons rfl (Env.sub_cons rfl (Env.sub_nil)))) rfl (List.range _) selOk_range (sel_range.trans rfl)
                      · exact ⟨by omega, ⟨by show 0 ≤ cnt + 1; omega, by show cnt + 1 ≤ 100 * ((k + 1 : Nat) : Int); omega⟩, by simp [hyl], all2_take hup hx (EUp.refl e), lim_snoc hlim hx hl1, hheld.old hent0⟩
                      · show xs.length - (k + 1) < xs.length - k; omega
              ·
                have ek : k = xs.length := by have := of_decide_eq_false hc59; omega
                rw [ek, List.take_length] at hup hlim
                have hyl2 := all2_len hup
                obtain rfl : k = ys.length := hyl.symm
                refine WC.exit ?_
                refine End.thenX ?_
                refine End.thenX ?_
                refine End.blkX ?_
                refine End.seq ?_
                refine WC.seq ?_
                refine WC.region ?_
                refine WL.p rfl rfl rfl (P.move rfl) ?_
                refine WL.p rfl rfl rfl (P.move rfl) ?_
                refine WL.p rfl rfl rfl (P.move rfl) ?_
                refine WL.p rfl rfl rfl (P.move rfl) ?_
                refine WL.callv (ent_of Tryz.func39 rfl rfl) rfl rfl rfl (fun w hs => level_any A0 c0 xs user A3 c3 groups name w (hg.st hs) ((evs_of hv0 he hlim).st hs) (hgr.st hs)) ?_
                refine WL.p rfl rfl rfl (P.assign rfl) ?_
                refine WL.nil_ ?_
                refine End.seq ?_
                refine WC.seq ?_
                refine WC.seq ?_
                refine WC.region ?_
                refine WL.know (φ := ∃ A c, v = .slice A ys.length c) (fun w hs => row_slice hs (j := 0) rfl) (fun hvs => ?_)
                obtain ⟨Av, cv, rfl⟩ := hvs
                refine WL.p rfl rfl rfl (P.move rfl) ?_
                refine WL.p rfl rfl rfl (P.move rfl) ?_
                refine WL.p rfl rfl rfl (P.move rfl) ?_
                refine WL.p rfl rfl rfl (P.move rfl) ?_
                refine WL.callv (ent_of Tryz.func39 rfl rfl) rfl rfl rfl (fun w hs => level_any Av cv ys user A3 c3 groups name w (hg.st hs) (evs_row hs (j := 0) rfl rfl (by omega) hheld (fun i h => by simp [h]) (all2_lim hup hlim)) (hgr.st hs)) ?_
                refine WL.p rfl rfl rfl (P.move rfl) ?_
                refine WL.p rfl rfl rfl (P.cmp rfl rfl rfl) ?_
                refine WL.nil_ ?_
                refine End.seq ?_
                refine WC.cond rfl (fun hc126 => ?_) (fun hc126 => ?_)
                ·
                  exact absurd (of_decide_eq_true hc126) (by have := level_up matchB ordB (first := firstB name) (name := name) (user := user) (groups := groups) hup; omega)
                ·
                  refine WC.skip ?_
                  refine End.seq ?_
                  refine WC.seq ?_
                  refine WC.region ?_
                  refine WL.p rfl rfl rfl (P.fieldAddr fa_34_1 rfl) ?_
                  refine WL.p rfl rfl rfl (P.loadO 1 Tryz.isAgg9 rfl rfl rfl) ?_
                  refine WL.p rfl rfl rfl (P.move rfl) ?_
                  refine WL.callv (ent_of Tryz.func40 rfl rfl) rfl rfl rfl (fun w hs => match_any m.name name w (hg.st hs)) ?_
                  refine WL.p rfl rfl rfl (P.move rfl) ?_
                  refine WL.split 131 rfl (fun hs131 => ?_) (fun hs131 => ?_)
                  ·
                    refine WL.off rfl rfl ?_
                    refine WL.off rfl rfl ?_
                    refine WL.off rfl rfl ?_
                    refine WL.off rfl rfl ?_
                    refine WL.off rfl rfl ?_
                    refine WL.off rfl rfl ?_
                    refine WL.off rfl rfl ?_
                    refine WL.off rfl rfl ?_
                    refine WL.off rfl rfl ?_
                    refine WL.off rfl rfl ?_
                    refine WL.p rfl rfl rfl (P.pickT rfl rfl) ?_
                    refine WL.p rfl rfl rfl (P.assign rfl) ?_
                    refine WL.nil_ ?_
                    refine End.seq ?_
                    refine WC.ret ?_
                    refine End.ret1 rfl rfl ?_
                    exact fun w' hs' => RetV.of rfl hs'
                  ·
                    have hme : ∀ x ∈ ((m, Value.slice Ama m.alt.length cma, Value.slice Amg m.grants.length cmg) :: xs : List EV), EntAt w x.1 x.2.1 x.2.2 := fun x hx => by rcases List.mem_cons.1 hx with rfl | hx <;> first | exact hm | exact he x hx
                    have hlim2 : ∀ x ∈ ((m, Value.slice Ama m.alt.length cma, Value.slice Amg m.grants.length cmg) :: xs : List EV), x.1.name.size ≤ 60 ∧ x.1.grants.length ≤ 12 := fun x hx => by rcases List.mem_cons.1 hx with rfl | hx <;> first | exact ⟨hm1, hm2⟩ | exact hlim x hx
                    refine WL.p rfl rfl rfl (P.loadW 1 Tryz.isAgg34 Tryz.sizeOf34 rfl rfl rfl) ?_
                    refine WL.row Tryz.underlying46 Tryz.sizeOf34 Tryz.zeroValue34 rfl rfl rfl rfl rfl rfl rfl rfl rfl (fun b133 => ?_)
                    refine WL.p rfl rfl rfl (P.move rfl) ?_
                    refine WL.asRowN (sz := 33) (m := 1) 0 rfl rfl (by decide) ?_
                    refine WL.extend 0 (l := 1) (m := xs.length) (lt := ((m, Value.slice Ama m.alt.length cma, Value.slice Amg m.grants.length cmg) :: xs : List EV).length) (news := xs.flatMap encEV) (all := ((m, Value.slice Ama m.alt.length cma, Value.slice Amg m.grants.length cmg) :: xs : List EV).flatMap encEV) el46 rfl rfl rfl rfl rfl (evcells_len _) (fun w hs => srcEV (hv0.st hs) hz0) (fun u hu => by obtain ⟨x, hx, hu⟩ := List.mem_flatMap.1 hu; exact encEV_one (he x hx).one.1 (he x hx).one.2 u hu) rfl (by rw [List.length_cons, Nat.add_comm]) (by unfold maxLen; omega) (by omega) (fun q2 cap2 hq2 => ?_)
                    refine WL.p rfl rfl rfl (P.move rfl) ?_
                    refine WL.p rfl rfl rfl (P.move rfl) ?_
                    refine WL.p rfl rfl rfl (P.move rfl) ?_
                    refine WL.callv (ent_of Tryz.func39 rfl rfl) rfl rfl rfl (fun w hs => level_any (some ⟨q2, 0, none⟩) cap2 ((m, Value.slice Ama m.alt.length cma, Value.slice Amg m.grants.length cmg) :: xs : List EV) user A3 c3 groups name w (hg.st hs) (evs_of (sl_rowN hs (j := 0) rfl rfl (fun _ _ => rfl) (by simp; omega)) (fun x hx => (hme x hx).st hs) hlim2) (hgr.st hs)) ?_
                    refine WL.p rfl rfl rfl (P.move rfl) ?_
                    refine WL.p rfl rfl rfl (P.cmp rfl rfl rfl) ?_
                    refine WL.p rfl rfl rfl (P.pickF rfl rfl) ?_
                    refine WL.p rfl rfl rfl (P.assign rfl) ?_
                    refine WL.nil_ ?_
                    refine End.seq ?_
                    refine WC.ret ?_
                    refine End.ret1 rfl rfl ?_
                    exact fun w' hs' => RetV.of (by rw [level_skip matchB ordB hs131]; simp) hs'

end Go.Proofs.YtlkkiimmangplaaGreatDoor

/- Lists of bytes and of entries that came in, opened. -/
namespace Go.Proofs.YtlkkiimmangplaaGreatDoor
open Go Go.RowKit
set_option linter.unusedVariables false
set_option linter.unusedSimpArgs false
open Go.ChangeShapes Go.WideShapes Go.ChangeAt
variable {H : Type} {enc : TypeId × Value → H} {w : World} {n : Nat} {cs : List Value} {x : DataW H × List MemPlace}
theorem bytes5 : 1 ≤ Tryz.prog.bytesOf 5 := by rw [show Tryz.prog.bytesOf 5 = 1 by kernel_rfl]; decide
theorem op47 (h : Td enc w n 47 cs x) (hw : Wok 47 x.1) : ∃ (A : Option Addr) (cap : Nat) (ys : List Int), cs = [.slice A ys.length cap] ∧ ys.length ≤ cap ∧ cap ≤ 140737488351232 ∧ (∀ y ∈ ys, 0 ≤ y ∧ y < 256) ∧ Sl encB 1 w A ys ∧ (A = none → cap = 0) :=
  open_sl encB (fun k => 0 ≤ k ∧ k < 256) Tryz.underlying47 cells5 (by decide) bytes5 h hw (fun n cs y h _ => op5 h)
theorem op46 (h : Td enc w n 46 cs x) (hw : Wok 46 x.1) : ∃ (A : Option Addr) (cap : Nat) (ys : List EV), cs = [.slice A ys.length cap] ∧ ys.length ≤ cap ∧ cap ≤ 140737488351232 ∧ (∀ y ∈ ys, Eb y.1 ∧ EntAt w y.1 y.2.1 y.2.2) ∧ Sl encEV 33 w A ys ∧ (A = none → cap = 0) :=
  open_sl encEV (fun y : EV => Eb y.1 ∧ EntAt w y.1 y.2.1 y.2.2) Tryz.underlying46 cells34 (by decide) bytes34 h hw (fun n cs y h hw => by
    obtain ⟨e, va, vg, h1, h2, h3⟩ := op34 h hw
    exact ⟨(e, va, vg), h1, h2, h3⟩)
end Go.Proofs.YtlkkiimmangplaaGreatDoor

/- The library's table of decimal powers, out of the rows' laid variables. -/
namespace Go.Proofs.YtlkkiimmangplaaGreatDoor
open Go.RowKit
set_option linter.unusedVariables false
abbrev laidL : List (String × DataW Unit) := [("math/bits.deBruijn32tab", Rows.laid_math_bits_deBruijn32tab), ("math/bits.deBruijn64tab", Rows.laid_math_bits_deBruijn64tab), ("internal/strconv.uint64pow10", Rows.laid_internal_strconv_uint64pow10), ("unicode/utf8.acceptRanges", Rows.laid_unicode_utf8_acceptRanges), ("unicode/utf8.first", Rows.laid_unicode_utf8_first)]
theorem pow10_at : Tryz.prog.globalNamed "internal/strconv.uint64pow10" = some 1 := by kernel_rfl
theorem pow10_type : (Tryz.prog.globals[1]?).map (·.type) = some 323 := by kernel_rfl
theorem pow10_u : Tryz.prog.underlying 323 = some (.array 20 255) := by kernel_rfl
theorem pow10_e : Tryz.prog.underlying 255 = some (.int .u64) := by kernel_rfl
theorem tab_of_laid {W : World} (h : laidMetH Tryz.prog laidL W) : Lib.TabBelow Tryz.prog W.heap.size W "internal/strconv.uint64pow10" .u64 Lib.pow10Tab := by
  rw [MakeChecks.laidMetH_plain _ _ _ (by kernel_rfl)] at h
  refine Lib.tabBelow_of_tabIs ?_
  obtain ⟨ps, ⟨_, _, _, _, _, _, _, _, _, _, ⟨_, _, _, _, _, _, _, _, _, _, ⟨g, t, cs, fuel, p, q, hg, ht, hvar, hd, _, _⟩, _⟩, _⟩, _⟩ := h
  obtain rfl := Option.some.inj (pow10_at.symm.trans hg)
  obtain rfl := Option.some.inj (pow10_type.symm.trans ht)
  unfold Lib.TabIs
  have hd2 : DataW.trod (fun _ => ()) Tryz.prog W 0 (fun _ => true) false fuel 323 cs.toList = some (Lib.tabData .u64 Lib.pow10Tab, p) := hd
  rw [hvar, ← Lib.cells_of_tab pow10_u pow10_e (by kernel_rfl) (by kernel_rfl) hd2]
theorem good_of {W : World} (hsh : W.ShapedOpen Tryz.prog) (h : laidMetH Tryz.prog laidL W) : Good W := ⟨hsh, tab_of_laid h⟩
end Go.Proofs.YtlkkiimmangplaaGreatDoor

/- The closed facts of the program that all rows ask. -/
namespace Go.Proofs.YtlkkiimmangplaaGreatDoor
open Go
set_option linter.unusedVariables false
set_option linter.unusedSimpArgs false

open Go.ChangeShapes Go.WideShapes
set_option maxRecDepth 100000

theorem words_of {l : List (List Char)} {h s c : List Char} (hl : l.take 3 = [h, s, c]) : ∃ r, l = h :: s :: c :: r := by
  match l, hl with
  | a :: b :: d :: r, hl =>
    simp only [List.take_succ_cons, List.take_zero, List.cons.injEq, and_true] at hl
    obtain ⟨rfl, rfl, rfl⟩ := hl
    exact ⟨r, rfl⟩
  | [], hl => cases hl
  | [_], hl => cases hl
  | [_, _], hl => cases hl
theorem behind_of {l : List (List Char)} {h s c : List Char} (hl : l.take 3 = [h, s, c]) (hs : ((h == "harness".toList || h == "ownmain".toList) && isSumSigns s) = true) : ∃ r, behindMainWord l = c :: r := by
  obtain ⟨r, rfl⟩ := words_of hl
  refine ⟨r, ?_⟩
  simp only [behindMainWord]
  rw [if_pos hs]
theorem main_of {P : Program} {s c : List Char} {h : List Char} (hl : (wordsSigns P.initOrder.toList).take 3 = [h, s, c]) (hs : isSumSigns s = true) (hh : (h == "harness".toList) = true) : P.mainIs = some (true, s) := by
  obtain ⟨r, hr⟩ := words_of hl
  unfold Program.mainIs
  rw [hr]
  simp only [hs, hh]
  rfl
theorem may_of {P : Program} {r : List (List Char)} {c : List Char} (h : behindMainWord (wordsSigns P.initOrder.toList) = c :: r) (hs : stripLifts liftWords (c :: r) = ([], c :: r)) (hc : (some c == some "cut".toList) = true) (h1 : P.laysLater = false) (h2 : P.bearsReflect = false) (h3 : P.doorFits [] = true) : P.mayEnter = true := by
  unfold Program.mayEnter
  rw [h]
  simp only [hs, h1, h2, h3, List.head?_cons, hc]
  simp
theorem head_of {P : Program} {r : List (List Char)} {c : List Char} (h : behindMainWord (wordsSigns P.initOrder.toList) = c :: r) (hs : stripLifts liftWords (c :: r) = ([], c :: r)) : P.headLifts = [] := by
  unfold Program.headLifts
  rw [h]
  simp only [hs]
  simp
theorem final_of {P : Program} {r : List (List Char)} {c : List Char} (h : behindMainWord (wordsSigns P.initOrder.toList) = c :: r) (hh : P.headLifts = []) (hc : (some c == some "carried".toList) = false) : P.liftsFinal = false := by
  unfold Program.liftsFinal
  rw [h, hh]
  simp only [List.head?_cons, hc]
  simp
theorem make_of {P : Program} {r : List (List Char)} {c : List Char} (h : behindMainWord (wordsSigns P.initOrder.toList) = c :: r) (h1 : (c == "gc".toList) = false) (h2 : (c == "spec".toList) = false) (h3 : (c == "cut".toList) = true) : P.make = some .cut := by
  unfold Program.make
  rw [h]
  simp only [h1, h2, h3]
  rfl
theorem strip_cut (r : List (List Char)) : stripLifts liftWords ("cut".toList :: r) = ([], "cut".toList :: r) := by rfl
theorem jw3 : (wordsSigns Tryz.prog.initOrder.toList).take 3 = ["harness".toList, "1f55a028107fcf6cc6d30742e76c2172639d12f8ca8a28f69385b22ba6fbaccc".toList, "cut".toList] := by kernel_rfl
theorem jlays : Tryz.prog.laysLater = false := by kernel_rfl
theorem jrefl : Tryz.prog.bearsReflect = false := by kernel_rfl
theorem jdoor : Tryz.prog.doorFits [] = true := by kernel_rfl
theorem jsum : (("harness".toList == "harness".toList || "harness".toList == "ownmain".toList) && isSumSigns "1f55a028107fcf6cc6d30742e76c2172639d12f8ca8a28f69385b22ba6fbaccc".toList) = true := by kernel_rfl
theorem jsum1 : isSumSigns "1f55a028107fcf6cc6d30742e76c2172639d12f8ca8a28f69385b22ba6fbaccc".toList = true := by kernel_rfl
theorem jb : ∃ r, behindMainWord (wordsSigns Tryz.prog.initOrder.toList) = "cut".toList :: r := behind_of jw3 jsum
theorem jmain : Tryz.prog.mainIs = some (true, "1f55a028107fcf6cc6d30742e76c2172639d12f8ca8a28f69385b22ba6fbaccc".toList) := main_of jw3 jsum1 (by kernel_rfl)
theorem jf_25 : Tryz.prog.mayEnter = true := by
  obtain ⟨r, hr⟩ := jb
  exact may_of hr (strip_cut r) (by kernel_rfl) jlays jrefl jdoor
theorem jheadLifts : Tryz.prog.headLifts = [] := by
  obtain ⟨r, hr⟩ := jb
  exact head_of hr (strip_cut r)
theorem jf_26 : ((Rows.generationNumbersRow.lifted == Tryz.prog.liftsFinal)) = true := by
  obtain ⟨r, hr⟩ := jb
  rw [final_of hr jheadLifts (by kernel_rfl)]; rfl
theorem jf_27 : ((Tryz.prog.make == some Rows.generationNumbersRow.make)) = true := by
  obtain ⟨r, hr⟩ := jb
  rw [make_of hr (by kernel_rfl) (by kernel_rfl) (by kernel_rfl)]; rfl
theorem jlooks : false = Tryz.prog.looks [] := by kernel_rfl

theorem jf_1 : (laidOutB Tryz.prog) = true := by kernel_rfl

theorem jf_2 : (mapsRowed Tryz.prog) = true := by kernel_rfl

theorem jf_6 : ((Tryz.prog.stops == [])) = true := by kernel_rfl

theorem jf_8 : ((Tryz.prog.stopKnobs == [])) = true := by kernel_rfl

theorem jf_22 : ((Rows.generationNumbersRow.plainKeys == Tryz.prog.plainKeys)) = true := by kernel_rfl

theorem jf_24 : (Tryz.prog.stopsHeard) = true := by kernel_rfl

end Go.Proofs.YtlkkiimmangplaaGreatDoor
