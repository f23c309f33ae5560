/- Rows of own memory: their cells read and written. -/
import Derived.Test.YtlkkiimmangplaaGreatDoorP11
import Derived.Laws.OwnMore
namespace Go.Proofs.YtlkkiimmangplaaGreatDoor
open Go.RowKit
set_option linter.unusedVariables false
set_option linter.unusedSimpArgs false

theorem run_storeAt_row {t : TypeId} (hsz : Sized t 1) {w : World} {B e g n c k : Nat} {xs : List Value} {v : Value} (h1 : v.oneCell' = true) (h : w.ownsRow B e 1 (.slice (some ⟨g, 0, none⟩) n c) n xs) (hk : k < n) :
    (Instr.storeAt t (.pointer (some ⟨g, k, none⟩)) v).run Tryz.prog w = .ok () (w.setCell ⟨g, k, none⟩ v) := by
  have hc := h.cellAt k (by omega)
  have hl : xs.length = n := by have := h.1; omega
  rw [List.getElem?_eq_getElem (by omega)] at hc
  have hfr := h.frozenAt k
  have hvc : v.cells = #[v] := by cases v <;> first | rfl | simp [Value.oneCell'] at h1
  have hst : (store ⟨g, k, none⟩ v).run Tryz.prog w = .ok () (w.setCell ⟨g, k, none⟩ v) := by
    cases v <;> first | (simp [Value.oneCell'] at h1; done) | simp [store, Sem.run, hc, hfr]
  simp [Instr.storeAt, Instr.sureAddr, storeVar, Sem.run_bind, hvc, hsz w, storeCells, Addr.add, hst]
theorem St.rowSet {w0 w : World} {H : List It} (hs : St w0 H w) {j e g n c : Nat} {xs : List Value} (hj : H[j]? = some (.row e 1 (.slice (some ⟨g, 0, none⟩) n c) n xs)) (k : Nat) (u : Value) :
    St w0 (H.set j (.row e 1 (.slice (some ⟨g, 0, none⟩) n c) n (xs.set k u))) (w.setCell ⟨g, k, none⟩ u) := by
  have hr : w.ownsRow w0.heap.size e 1 (.slice (some ⟨g, 0, none⟩) n c) n xs := hs.ok j _ hj
  have hb := (hr.lt g rfl).1
  exact hs.swap j hj (fun q hq => .inl hq) (hr.stored k u).1 (hs.below.setCell (p := ⟨g, k, none⟩) hb u) (fun q _ hq => Below.heap_setCell _ _ _ _ (fun e => hq (by rw [e]; rfl)))
theorem row_at {w0 w : World} {H : List It} {j e g n c k : Nat} {xs : List Value} {u : Value} (hs : St w0 H w) (hj : H[j]? = some (.row e 1 (.slice (some ⟨g, 0, none⟩) n c) n xs)) (hx : xs[k]? = some u) : w.cell? ⟨g, k, none⟩ = some u := by
  have hr : w.ownsRow w0.heap.size e 1 (.slice (some ⟨g, 0, none⟩) n c) n xs := hs.ok j _ hj
  have := hr.cells (g := g) rfl k u hx
  rwa [add0, Nat.zero_add] at this
theorem St.asRow {w0 w : World} {H : List It} (hs : St w0 H w) {j e b m : Nat} {cs : Array Value} (hj : H[j]? = some (.blk b e cs)) (hm : cs.size = m) (hl : m ≤ maxLen) : St w0 (H.set j (.row e 1 (.slice (some ⟨b, 0, none⟩) m m) m cs.toList)) w := by
  have hb := hs.ok j _ hj
  refine hs.swap j hj (fun q hq => .inl hq) ⟨by simp [hm], .inr ⟨b, m, cs, rfl, hb.1, hb.2, Nat.le_refl _, hl, by omega, List.take_of_length_le (by simp [hm])⟩⟩ hs.below (fun q _ _ => rfl)
section
variable {w0 : World} {n : Nat} {ops : Array Oper} {Q : Exit → Act → World → Prop} {o : Oper} {rest : List Oper} {ρ : Env} {H : List It}
variable {d : Nat} {ty t t' : TypeId} {pos : String} {af : Array Edge} {g : Option (Nat × Bool)} {x y z : Operand} {v u : Value}
theorem WL.asRow {l : List Oper} (j : Nat) {e b m : Nat} {cs : Array Value} (hj : H[j]? = some (.blk b e cs)) (hm : cs.size = m) (hl : m ≤ maxLen) (k : WL w0 n ops Q l ρ (H.set j (.row e 1 (.slice (some ⟨b, 0, none⟩) m m) m cs.toList))) : WL w0 n ops Q l ρ H := fun a w hf hs => k a w hf (hs.asRow hj hm hl)
theorem WC.asRow {c : Code} (j : Nat) {e b m : Nat} {cs : Array Value} (hj : H[j]? = some (.blk b e cs)) (hm : cs.size = m) (hl : m ≤ maxLen) (k : WC w0 n Q c ρ (H.set j (.row e 1 (.slice (some ⟨b, 0, none⟩) m m) m cs.toList))) : WC w0 n Q c ρ H := fun a w hf hs => k a w hf (hs.asRow hj hm hl)
theorem P.loadR (j : Nat) {b off e n' c : Nat} {xs : List Value} (hag : NoAgg t) (hx : ev ρ x = some (.pointer (some ⟨b, off, none⟩))) (hj : H[j]? = some (.row e 1 (.slice (some ⟨b, 0, none⟩) n' c) n' xs)) (hv : xs[off]? = some v) : Pure w0 n ρ H ⟨some d, .load t x, ty, pos, af, g⟩ v :=
  P.loadH hag hx fun w hs => row_at hs hj hv
theorem WL.storeR (j : Nat) {b off e n' c : Nat} {xs : List Value} (hsz : Sized t 1) (hon : onB ops ρ ⟨none, .store t x y, ty, pos, af, g⟩ = some true) (hx : ev ρ x = some (.pointer (some ⟨b, off, none⟩))) (hy : ev ρ y = some v) (h1 : v.oneCell' = true) (hj : H[j]? = some (.row e 1 (.slice (some ⟨b, 0, none⟩) n' c) n' xs))
    (ho : off < n') (k : WL w0 n ops Q rest ρ (H.set j (.row e 1 (.slice (some ⟨b, 0, none⟩) n' c) n' (xs.set off v)))) : WL w0 n ops Q (⟨none, .store t x y, ty, pos, af, g⟩ :: rest) ρ H :=
  WL.skip_ hon rfl (fun a w hf hs => ⟨_, by simp [execOp, hf.eval hx, hf.eval hy, run_storeAt_row hsz h1 (hs.ok j _ hj) ho], hs.rowSet hj off v⟩) k
theorem WL.cast {H' : List It} {l : List Oper} (h : H = H') (k : WL w0 n ops Q l ρ H') : WL w0 n ops Q l ρ H := h ▸ k
/-- append of at least one to an own row. -/
theorem WL.push (j : Nat) {e size bytes l m c' lt : Nat} {zv : Value} {a : Addr} {xs news all : List Value} (hel : ElT t e size bytes zv) (hon : onB ops ρ ⟨some d, .call ⟨.builtin .append, #[x, y], #[t, t]⟩, ty, pos, af, g⟩ = some true) (hd : Nat.blt d n = true) (hx : ev ρ x = some v) (hj : H[j]? = some (.row e size v l xs)) (hy : ev ρ y = some (.slice (some a) m c'))
    (hl : news.length = m * size) (hnews : ∀ w, St w0 H w → ∀ j u, news[j]? = some u → w.cell? (a.add j) = some u) (h1 : ∀ u ∈ news, u.oneCell' = true) (hall : xs ++ news = all) (hlt : l + m = lt) (hm : 0 < m) (h63 : l + m ≤ maxLen) (hbytes : (l + m) * bytes ≤ 140737488355328)
    (k : ∀ q cap, lt ≤ cap → WL w0 n ops Q rest ((d, .slice (some ⟨q, 0, none⟩) lt cap) :: ρ) (H.set j (.row e size (.slice (some ⟨q, 0, none⟩) lt cap) lt all))) : WL w0 n ops Q (⟨some d, .call ⟨.builtin .append, #[x, y], #[t, t]⟩, ty, pos, af, g⟩ :: rest) ρ H := by
  subst hall hlt
  exact WL.valx (S := fun p : Nat × Nat => l + m ≤ p.2) (v := fun p => .slice (some ⟨p.1, 0, none⟩) (l + m) p.2) (H' := fun p => H.set j (.row e size (.slice (some ⟨p.1, 0, none⟩) (l + m) p.2) (l + m) (xs ++ news))) hon rfl hd (fun act w hf hs => by
    obtain ⟨v', w', h2, h3, h4⟩ := append_own (ty := ty) hel hs j hj a m c' news hl (hnews w hs) h1 h63 hbytes
    have hlen : j < H.length := (List.getElem?_eq_some_iff.1 hj).1
    have hrow := h3.ok j _ (List.getElem?_set_self hlen)
    rcases hrow.2 with ⟨_, h5⟩ | ⟨q, cap, cur, rfl, _, _, h6, _⟩
    · omega
    · exact ⟨(q, cap), w', h6, by simp [execOp, resolve, invoke, builtin, hf.eval hx, hf.eval hy, h2], h3⟩) (fun p hp => k p.1 p.2 hp)
variable {vs : List (Lt → Value)} {Hs : (Nat → Bool) → Lt → List It} {al : List Nat} {i : Nat}
theorem Stp.storeR (j : Nat) (hsz : Sized t 1) (hr : ∀ (b : Nat → Bool) (s : Lt), (∀ j ∈ dps ⟨none, .store t x y, ty, pos, af, g⟩, b j = true) → ∃ (q off e n' c : Nat) (xs : List Value) (v : Value), (onB ops (envOf ops (fun j => nth vs j s) (dps ⟨none, .store t x y, ty, pos, af, g⟩) ++ ρ) ⟨none, .store t x y, ty, pos, af, g⟩ = some true) ∧
      ev (envOf ops (fun j => nth vs j s) (dps ⟨none, .store t x y, ty, pos, af, g⟩) ++ ρ) x = some (.pointer (some ⟨q, off, none⟩)) ∧ ev (envOf ops (fun j => nth vs j s) (dps ⟨none, .store t x y, ty, pos, af, g⟩) ++ ρ) y = some v ∧ v.oneCell' = true ∧ off < n' ∧
      (∃ Y, (Hs b s)[j]? = some (bif b i then Y else .row e 1 (.slice (some ⟨q, 0, none⟩) n' c) n' xs)) ∧ nth vs i s = undef ∧ (b i = false → Hs (up b i) s = (Hs b s).set j (.row e 1 (.slice (some ⟨q, 0, none⟩) n' c) n' (xs.set off v)))) : Stp w0 n ops Q ρ vs Hs al i ⟨none, .store t x y, ty, pos, af, g⟩ := fun b s hcl hb hd => by
  obtain ⟨q, off, e, n', c, xs, v, hon, hx, hy, h1, ho, ⟨Y, hj⟩, hu, hH⟩ := hr b s hd
  rw [hb] at hj
  simp only [cond_false] at hj
  refine OS.skip_ hon fun a w hf hs => ?_
  refine ⟨w.setCell ⟨q, off, none⟩ v, ?_, s, .inl rfl, hu.symm, ?_⟩
  · simp [execOp, hf.eval hx, hf.eval hy, run_storeAt_row hsz h1 (hs.ok j _ hj) ho]
  · rw [hH hb]
    exact hs.rowSet hj off v
end
theorem envOf_keys {ops : Array Oper} {val : Nat → Value} : ∀ {l : List Nat} {q : Nat × Value}, q ∈ envOf ops val l → q.1 ∈ dstsOf ops
  | [], q, h => by cases h
  | j :: r, q, h => by
    unfold envOf at h
    split at h
    · rename_i d hd
      rcases List.mem_cons.1 h with rfl | h
      · cases ho : ops[j]? with
        | none => rw [ho] at hd; cases hd
        | some o =>
          rw [ho] at hd
          exact List.mem_filterMap.2 ⟨o, by simpa using Array.mem_of_getElem? ho, hd⟩
      · exact envOf_keys h
    · exact envOf_keys h
/-- Behind a drawing region: its slots, and the others as they were. -/
theorem End.shapeC {w0 : World} {n : Nat} {Q : Exit → Act → World → Prop} {H H' : List It} {ops : Array Oper} {val : Nat → Value} {l : List Nat} {ρ new : Env} {e : Exit} (hc : cleanB ops n ρ = true) (hn : Env.sub new (envOf ops val l ++ clean ops ρ)) (h2 : H = H') (k : End w0 n Q e (new ++ ρ) H') : End w0 n Q e (envOf ops val l ++ clean ops ρ) H := by
  unfold cleanB at hc
  rw [Bool.and_eq_true, List.all_eq_true] at hc
  have hcl : clean ops ρ = ρ := List.filter_eq_self.2 hc.1
  refine End.shape (ρ' := new ++ ρ) (fun i v hi => ?_) h2 k
  rw [Env.find_app] at hi
  cases hq : Env.find new i with
  | some u =>
    rw [hq] at hi
    simp at hi
    subst hi
    exact hn i u hq
  | none =>
    rw [hq] at hi
    simp only at hi
    rw [hcl, Env.find_app]
    cases ht : Env.find (envOf ops val l) i with
    | none => exact hi
    | some u =>
      exfalso
      have h1 := envOf_keys (Env.find_mem ht)
      have h3 := hc.1 _ (Env.find_mem hi)
      simp at h3
      exact h3 h1
def strs (l : List ByteArray) : List Value := l.map Value.string
theorem strs_len (l : List ByteArray) : (strs l).length = l.length := by simp [strs]
theorem strs_one (l : List ByteArray) : ∀ u ∈ strs l, u.oneCell' = true := by
  intro u hu
  obtain ⟨x, _, rfl⟩ := List.mem_map.1 hu
  rfl
theorem strs_get {l : List ByteArray} {k : Nat} {x : ByteArray} (h : l[k]? = some x) : (strs l)[k]? = some (.string x) := by simp [strs, h]
theorem strs_app (a b : List ByteArray) : strs a ++ strs b = strs (a ++ b) := by simp [strs]
theorem strs_set (l : List ByteArray) (k : Nat) (x : ByteArray) : (strs l).set k (.string x) = strs (l.set k x) := by simp [strs, List.map_set]
theorem slS_item {w0 w : World} {H : List It} {j n c : Nat} {A : Option Addr} {xs : List ByteArray} (hs : St w0 H w) (hj : H[j]? = some (.row 9 1 (.slice A n c) n (strs xs))) (hl : xs.length ≤ 140737488351232) : Sl encS 1 w A xs := by
  refine ⟨by omega, fun hp => ?_⟩
  have hr := hs.ok j _ hj
  rcases hr.2 with ⟨h1, h2⟩ | ⟨g, cap, cur, hv, _, hg, _⟩
  · have := hr.1
    simp [strs] at this
    omega
  · cases hv
    refine ⟨g, 0, rfl, fun k x hx i u hu => ?_⟩
    cases i with
    | succ i => simp [encS] at hu
    | zero =>
      simp [encS] at hu
      subst hu
      have := row_at hs hj (strs_get hx)
      simpa using this
theorem Sl.take {α : Type} {enc : α → List Value} {sz : Nat} {w : World} {A : Option Addr} {xs : List α} (h : Sl enc sz w A xs) (m : Nat) : Sl enc sz w A (xs.take m) := by
  refine ⟨by have := h.1; rw [List.length_take]; omega, fun hp => ?_⟩
  rw [List.length_take] at hp
  obtain ⟨b, off, rfl, hc⟩ := h.at_ (by omega)
  refine ⟨b, off, rfl, fun k x hx i u hu => hc k x ?_ i u hu⟩
  rw [List.getElem?_take] at hx
  split at hx
  · exact hx
  · cases hx
/-- The cells of a block, as what append takes. -/
theorem news_blk {w0 w : World} {H : List It} (hs : St w0 H w) {j e b : Nat} {cs : Array Value} (hj : H[j]? = some (.blk b e cs)) {l : List Value} (hl : l = cs.toList) : ∀ i u, l[i]? = some u → w.cell? ((⟨b, 0, none⟩ : Addr).add i) = some u := fun i u hu => by
  subst hl
  rw [add0, Nat.zero_add, cell_blk (hs.ok j _ hj).2]
  simpa using hu
theorem el48 : ElT 48 9 1 16 (.string ⟨#[]⟩) := ElT.of Tryz.underlying48 (by kernel_rfl) rfl (by decide)

end Go.Proofs.YtlkkiimmangplaaGreatDoor
