/- append. -/
import Derived.Test.YtlkkiimmangplaaGreatDoorU
import Derived.ArgAppend
import Derived.Laws.AppendOwn
import Derived.Laws.CopyOwn
namespace Go.Proofs.YtlkkiimmangplaaGreatDoor
open Go.RowKit
set_option linter.unusedVariables false
set_option linter.unusedSimpArgs false

/-- What append asks of an element's type. -/
structure ElT (t e size bytes : Nat) (z : Value) : Prop where
  ht : Tryz.prog.underlying t = some (.slice e)
  hi : ∃ i, Tryz.prog.info? e = some i ∧ i.zero = some z ∧ i.size = size ∧ i.bytes = bytes
  hzs : z.cells.size = size
  hsz : 0 < size
theorem ElT.of {t e size bytes : Nat} {z : Value} (ht : Tryz.prog.underlying t = some (.slice e)) (h : ((Tryz.prog.info? e).map fun i => (i.zero, i.size, i.bytes)) = some (some z, size, bytes)) (hzs : z.cells.size = size) (hsz : 0 < size) : ElT t e size bytes z := by
  refine ⟨ht, ?_, hzs, hsz⟩
  cases hi : Tryz.prog.info? e with
  | none => rw [hi] at h; cases h
  | some i =>
    rw [hi] at h
    simp at h
    exact ⟨i, rfl, h.1, h.2.1, h.2.2⟩
theorem el22 : ElT 22 3 1 8 (.int .i64 0) := ElT.of Tryz.underlying22 (by kernel_rfl) rfl (by decide)

theorem St.row_new {w0 w w' : World} {H : List It} {e size n : Nat} {v : Value} {xs : List Value} (h : St w0 H w) (hr : w'.ownsRow w.heap.size e size v n xs) (hg : w.grownBy w' none) : St w0 (.row e size v n xs :: H) w' := by
  have hb : Below w.heap.size w w' := ⟨hg.os, hg.tape, hg.output, hg.size, fun k hk => hg.block k hk (by simp)⟩
  refine h.call (H' := [.row e size v n xs]) ⟨hb, fun i x hi => ?_, fun i j x y hx hy hij => ?_⟩
  · cases i with
    | zero => simp at hi; subst hi; exact hr
    | succ i => simp at hi
  · cases i <;> cases j <;> simp_all

/-- append to an own row: it stays where it was, or a new one comes. -/
theorem append_own {w0 w : World} {H : List It} {t e size bytes ty : Nat} {z : Value} (hel : ElT t e size bytes z) (hs : St w0 H w) (j : Nat) {v : Value} {n : Nat} {xs : List Value} (hj : H[j]? = some (.row e size v n xs))
    (a : Addr) (m c : Nat) (news : List Value) (hl : news.length = m * size) (hnews : ∀ j u, news[j]? = some u → w.cell? (a.add j) = some u) (h1 : ∀ u ∈ news, u.oneCell' = true)
    (h63 : n + m ≤ maxLen) (hbytes : (n + m) * bytes ≤ 140737488355328) :
    ∃ v' w', (Builtin.append_ #[t, t] ty #[v, .slice (some a) m c]).run Tryz.prog w = .ok v' w' ∧ St w0 (H.set j (.row e size v' (n + m) (xs ++ news))) w' ∧ (v' = .slice none 0 0 ↔ v = .slice none 0 0 ∧ m = 0) := by
  obtain ⟨i, hi, hz, hsize, hby⟩ := hel.hi
  have hown := hs.ok j _ hj
  have hown' : w.ownsRow w0.heap.size e size v n xs := hown
  rcases hown.2 with ⟨rfl, rfl⟩ | ⟨g, cap, cur, rfl, hb, hg, hcap, hmax, hcs, htake⟩
  · have hx : xs = [] := by
      have := hown'.1
      simpa using this
    subst hx
    obtain ⟨v', w', h2, h3, h4, h5⟩ := run_append_own (P := Tryz.prog) w w.heap.size t ty e i z size bytes hel.ht hi hz hsize hby hel.hzs hel.hsz (.slice none 0 0) 0 [] (World.ownsRow_nil w w.heap.size e size) a m c news hl hnews h1 h63 hbytes (Nat.le_refl _)
    refine ⟨v', w', h2, ?_, h5⟩
    have hb2 : Below w.heap.size w w' := ⟨h4.os, h4.tape, h4.output, h4.size, fun k hk => h4.block k hk (by simp [Value.ownBlock])⟩
    refine hs.swap j hj (fun k hk => .inr (h3.lt k hk).1) ?_ (hs.below.trans (hb2.mono hs.size)) (fun k hk _ => hb2.block k hk)
    exact It.lower (i := .row e size v' (0 + m) ([] ++ news)) h3 hs.size
  · by_cases hroom : n + m ≤ cap
    · have hfit : n * size + news.length ≤ cur.size := by
        rw [hl, hcs, ← Nat.add_mul]; exact Nat.mul_le_mul_right _ hroom
      subst hsize
      have h2 := run_append_room (P := Tryz.prog) w t ty e i hel.ht hi g n cap cur hg a m c news hl hnews h1 hroom hfit
      refine ⟨_, _, h2, ?_, by simp⟩
      refine hs.swap j hj (fun k hk => .inl (by simpa [It.key, Value.ownBlock] using hk)) ?_ (below_setRow hs.below hb _) (fun k _ hk => setRow_other w g k _ (fun e => hk (by simp [It.key, Value.ownBlock, e])))
      refine ⟨by rw [List.length_append, hown'.1, hl, Nat.add_mul], .inr ⟨g, cap, _, rfl, hb, setRow_heap w g cur _ e _ hg, hroom, hmax, ?_, ?_⟩⟩
      · have hsz := hfit
        simp only [List.size_toArray, List.length_append, List.length_take, List.length_drop, Array.length_toList]
        omega
      · have hlen : (xs ++ news).length = (n + m) * i.size := by rw [List.length_append, hown'.1, hl, Nat.add_mul]
        rw [htake, ← hlen]
        exact List.take_left
    · have hcells := hown'.cells (g := g) rfl
      obtain ⟨v', w', h2, h3, h4⟩ := run_append_arg_grows (P := Tryz.prog) w t ty e i z size bytes hel.ht hi hz hsize hby hel.hzs hel.hsz ⟨g, 0, none⟩ n cap xs hown'.1 hcells a m c news hl hnews (by omega) h63 hbytes
      refine ⟨v', w', h2, ?_, ?_⟩
      · have hb2 : Below w.heap.size w w' := ⟨h4.os, h4.tape, h4.output, h4.size, fun k hk => h4.block k hk (by simp)⟩
        refine hs.swap j hj (fun k hk => .inr (h3.lt k hk).1) ?_ (hs.below.trans (hb2.mono hs.size)) (fun k hk _ => hb2.block k hk)
        exact It.lower (i := .row e size v' (n + m) (xs ++ news)) h3 hs.size
      · constructor
        · intro e'
          subst e'
          rcases h3.2 with ⟨_, h5⟩ | ⟨g', _, _, h5, _⟩
          · omega
          · cases h5
        · rintro ⟨h5, _⟩; cases h5
section
variable {w0 : World} {n : Nat} {ops : Array Oper} {Q : Exit → Act → World → Prop} {o : Oper} {rest : List Oper} {ρ : Env} {H : List It}
variable {d : Nat} {ty t t' : TypeId} {pos : String} {af : Array Edge} {g : Option (Nat × Bool)} {x y z : Operand} {v u : Value}
/-- append to a slice without room: a new row. -/
theorem WL.appendNew {e size bytes l c m c' : Nat} {zv : Value} {b a : Addr} {olds news : List Value} (hel : ElT t e size bytes zv) (hon : onB ops ρ ⟨some d, .call ⟨.builtin .append, #[x, y], #[t, t]⟩, ty, pos, af, g⟩ = some true) (hd : Nat.blt d n = true) (hx : ev ρ x = some (.slice (some b) l c)) (hy : ev ρ y = some (.slice (some a) m c'))
    (hlo : olds.length = l * size) (holds : ∀ w, St w0 H w → ∀ j u, olds[j]? = some u → w.cell? (b.add j) = some u) (hl : news.length = m * size) (hnews : ∀ w, St w0 H w → ∀ j u, news[j]? = some u → w.cell? (a.add j) = some u)
    (hg : c < l + m) (h63 : l + m ≤ maxLen) (hbytes : (l + m) * bytes ≤ 140737488355328)
    (k : ∀ q cap, l + m ≤ cap → cap ≤ maxLen → WL w0 n ops Q rest ((d, .slice (some ⟨q, 0, none⟩) (l + m) cap) :: ρ) (.row e size (.slice (some ⟨q, 0, none⟩) (l + m) cap) (l + m) (olds ++ news) :: H)) : WL w0 n ops Q (⟨some d, .call ⟨.builtin .append, #[x, y], #[t, t]⟩, ty, pos, af, g⟩ :: rest) ρ H :=
  WL.valx (S := fun p : Nat × Nat => l + m ≤ p.2 ∧ p.2 ≤ maxLen) (v := fun p => .slice (some ⟨p.1, 0, none⟩) (l + m) p.2) (H' := fun p => .row e size (.slice (some ⟨p.1, 0, none⟩) (l + m) p.2) (l + m) (olds ++ news) :: H) hon rfl hd (fun act w hf hs => by
    obtain ⟨i, hi, hz, hsize, hby⟩ := hel.hi
    obtain ⟨v', w', h2, h3, h4⟩ := run_append_arg_grows (P := Tryz.prog) w t ty e i zv size bytes hel.ht hi hz hsize hby hel.hzs hel.hsz b l c olds hlo (holds w hs) a m c' news hl (hnews w hs) hg h63 hbytes
    have hst := hs.row_new h3 h4
    rcases h3.2 with ⟨_, h5⟩ | ⟨q, cap, cur, rfl, _, _, h6, h7, _⟩
    · omega
    · exact ⟨(q, cap), w', ⟨h6, h7⟩, by simp [execOp, resolve, invoke, builtin, hf.eval hx, hf.eval hy, h2], hst⟩) (fun p hp => k p.1 p.2 hp.1 hp.2)
/-- append to an own row. -/
theorem WL.appendOwn (j : Nat) {e size bytes l m c' : Nat} {zv : Value} {a : Addr} {xs news : List Value} (hel : ElT t e size bytes zv) (hon : onB ops ρ ⟨some d, .call ⟨.builtin .append, #[x, y], #[t, t]⟩, ty, pos, af, g⟩ = some true) (hd : Nat.blt d n = true) (hx : ev ρ x = some v) (hj : H[j]? = some (.row e size v l xs)) (hy : ev ρ y = some (.slice (some a) m c'))
    (hl : news.length = m * size) (hnews : ∀ w, St w0 H w → ∀ j u, news[j]? = some u → w.cell? (a.add j) = some u) (h1 : ∀ u ∈ news, u.oneCell' = true) (h63 : l + m ≤ maxLen) (hbytes : (l + m) * bytes ≤ 140737488355328)
    (k : ∀ v', (v' = .slice none 0 0 ↔ v = .slice none 0 0 ∧ m = 0) → WL w0 n ops Q rest ((d, v') :: ρ) (H.set j (.row e size v' (l + m) (xs ++ news)))) : WL w0 n ops Q (⟨some d, .call ⟨.builtin .append, #[x, y], #[t, t]⟩, ty, pos, af, g⟩ :: rest) ρ H :=
  WL.valx (S := fun v' : Value => (v' = .slice none 0 0 ↔ v = .slice none 0 0 ∧ m = 0)) (v := fun v' => v') (H' := fun v' => H.set j (.row e size v' (l + m) (xs ++ news))) hon rfl hd (fun act w hf hs => by
    obtain ⟨v', w', h2, h3, h4⟩ := append_own (ty := ty) hel hs j hj a m c' news hl (hnews w hs) h1 h63 hbytes
    exact ⟨v', w', h4, by simp [execOp, resolve, invoke, builtin, hf.eval hx, hf.eval hy, h2], h3⟩) k
variable {vs : List (Lt → Value)} {Hs : (Nat → Bool) → Lt → List It} {al : List Nat} {i : Nat}
/-- append to an own row, in a region that draws. -/
theorem Stp.appendOwn (j : Nat) {e size bytes l m : Nat} {zv v : Value} {xs news : List Value} (hel : ElT t e size bytes zv) (hi : al.contains i = true) (hm : 0 < m) (hl : news.length = m * size) (h1 : ∀ u ∈ news, u.oneCell' = true) (h63 : l + m ≤ maxLen) (hbytes : (l + m) * bytes ≤ 140737488355328)
    (hr : ∀ (b : Nat → Bool) (s : Lt), ∃ (a : Addr) (c' : Nat), (onB ops (envOf ops (fun j => nth vs j s) (dps ⟨some d, .call ⟨.builtin .append, #[x, y], #[t, t]⟩, ty, pos, af, g⟩) ++ ρ) ⟨some d, .call ⟨.builtin .append, #[x, y], #[t, t]⟩, ty, pos, af, g⟩ = some true) ∧
      ev (envOf ops (fun j => nth vs j s) (dps ⟨some d, .call ⟨.builtin .append, #[x, y], #[t, t]⟩, ty, pos, af, g⟩) ++ ρ) x = some v ∧ ev (envOf ops (fun j => nth vs j s) (dps ⟨some d, .call ⟨.builtin .append, #[x, y], #[t, t]⟩, ty, pos, af, g⟩) ++ ρ) y = some (.slice (some a) m c') ∧
      (∀ w, St w0 (Hs b s) w → ∀ j u, news[j]? = some u → w.cell? (a.add j) = some u) ∧ (∃ Y, (Hs b s)[j]? = some (bif b i then Y else .row e size v l xs)) ∧
      ∀ q : Nat × Nat, nth vs i (updl s i q) = .slice (some ⟨q.1, 0, none⟩) (l + m) q.2 ∧ (b i = false → Hs (up b i) (updl s i q) = (Hs b s).set j (.row e size (.slice (some ⟨q.1, 0, none⟩) (l + m) q.2) (l + m) (xs ++ news)))) : Stp w0 n ops Q ρ vs Hs al i ⟨some d, .call ⟨.builtin .append, #[x, y], #[t, t]⟩, ty, pos, af, g⟩ := fun b s hcl hb hd => by
  obtain ⟨a, c', hon, hx, hy, hnews, ⟨Y, hj⟩, hq⟩ := hr b s
  rw [hb] at hj
  refine OS.val hon fun act w hf hs => ?_
  obtain ⟨v', w', h2, h3, h4⟩ := append_own (ty := ty) hel hs j hj a m c' news hl (hnews w hs) h1 h63 hbytes
  have hlen : j < (Hs b s).length := (List.getElem?_eq_some_iff.1 hj).1
  have hrow := h3.ok j _ (List.getElem?_set_self hlen)
  rcases hrow.2 with ⟨_, h5⟩ | ⟨q, cap, cur, rfl, _⟩
  · omega
  · obtain ⟨h6, h7⟩ := hq (q, cap)
    refine ⟨_, w', by simp [execOp, resolve, invoke, builtin, hf.eval hx, hf.eval hy, h2], _, .inr ⟨by simpa using hi, (q, cap), rfl⟩, h6.symm, ?_⟩
    rw [h7 hb]
    exact h3
/-- A part with a bound on its room. -/
theorem P.cutHM {e m c sz : Nat} {A : Option Addr} {j j' : IntKind} {h q : Int} (hu : Tryz.prog.underlying t = some (.slice e)) (hsz : Sized e sz) (hx : ev ρ x = some (.slice A m c)) (hy : ev ρ y = some (.int j h)) (hz : ev ρ z = some (.int j' q)) (h0 : 0 ≤ h) (h1 : h ≤ q) (h2 : q ≤ c) :
    Pure w0 n ρ H ⟨some d, .slice t x none (some y) (some z), ty, pos, af, g⟩ (.slice A h.toNat q.toNat) :=
  fun a w hf _ => by
    have hu' : Tryz.prog.underlying t = some (.slice (Tryz.prog.elem t)) := by simp [Program.elem, hu]
    have hq : 0 ≤ q := by omega
    have eq : (q.toNat : Int) = q := Int.toNat_of_nonneg hq
    have e0 : (A.map fun x => x.add 0) = A := by cases A <;> simp [Addr.add]
    simp [execOp, hf.eval hx, hf.eval hy, hf.eval hz, run_sliceAt_slice (P := Tryz.prog) w t _ _ _ _ hu', Instr.slice, underlying, hu, Instr.sliceBounds, run_sliceBound, h0, h1, h2, hq, eq, hsz w, e0]
/-- append to a slice without room, nil or not: a new row. -/
theorem WL.appendFresh {e size bytes l m c' : Nat} {zv : Value} {A : Option Addr} {a : Addr} {olds news all : List Value} {lt : Nat} (hel : ElT t e size bytes zv) (hon : onB ops ρ ⟨some d, .call ⟨.builtin .append, #[x, y], #[t, t]⟩, ty, pos, af, g⟩ = some true) (hd : Nat.blt d n = true) (hx : ev ρ x = some (.slice A l l)) (hy : ev ρ y = some (.slice (some a) m c'))
    (hlo : olds.length = l * size) (holds : ∀ w, St w0 H w → (A = none ∧ l = 0) ∨ ∃ b, A = some b ∧ ∀ j u, olds[j]? = some u → w.cell? (b.add j) = some u) (hl : news.length = m * size) (hnews : ∀ w, St w0 H w → ∀ j u, news[j]? = some u → w.cell? (a.add j) = some u) (h1 : ∀ u ∈ news, u.oneCell' = true)
    (hall : olds ++ news = all) (hlt : l + m = lt) (hm : 0 < m) (h63 : l + m ≤ maxLen) (hbytes : (l + m) * bytes ≤ 140737488355328)
    (k : ∀ q cap, lt ≤ cap → cap ≤ maxLen → WL w0 n ops Q rest ((d, .slice (some ⟨q, 0, none⟩) lt cap) :: ρ) (.row e size (.slice (some ⟨q, 0, none⟩) lt cap) lt all :: H)) : WL w0 n ops Q (⟨some d, .call ⟨.builtin .append, #[x, y], #[t, t]⟩, ty, pos, af, g⟩ :: rest) ρ H := by
  subst hall hlt
  exact WL.valx (S := fun p : Nat × Nat => l + m ≤ p.2 ∧ p.2 ≤ maxLen) (v := fun p => .slice (some ⟨p.1, 0, none⟩) (l + m) p.2) (H' := fun p => .row e size (.slice (some ⟨p.1, 0, none⟩) (l + m) p.2) (l + m) (olds ++ news) :: H) hon rfl hd (fun act w hf hs => by
    obtain ⟨i, hi, hz, hsize, hby⟩ := hel.hi
    have key : ∃ v' w', (Builtin.append_ #[t, t] ty #[.slice A l l, .slice (some a) m c']).run Tryz.prog w = .ok v' w' ∧ w'.ownsRow w.heap.size e size v' (l + m) (olds ++ news) ∧ w.grownBy w' none := by
      rcases holds w hs with ⟨rfl, rfl⟩ | ⟨b, rfl, hb⟩
      · have hx0 : olds = [] := by simpa using hlo
        subst hx0
        obtain ⟨v', w', h2, h3, h4, h5⟩ := run_append_own (P := Tryz.prog) w w.heap.size t ty e i zv size bytes hel.ht hi hz hsize hby hel.hzs hel.hsz (.slice none 0 0) 0 [] (World.ownsRow_nil w w.heap.size e size) a m c' news hl (hnews w hs) h1 h63 hbytes (Nat.le_refl _)
        exact ⟨v', w', h2, h3, h4⟩
      · exact run_append_arg_grows (P := Tryz.prog) w t ty e i zv size bytes hel.ht hi hz hsize hby hel.hzs hel.hsz b l l olds hlo hb a m c' news hl (hnews w hs) (by omega) h63 hbytes
    obtain ⟨v', w', h2, h3, h4⟩ := key
    have hst := hs.row_new h3 h4
    rcases h3.2 with ⟨_, h5⟩ | ⟨q, cap, cur, rfl, _, _, h6, h7, _⟩
    · omega
    · exact ⟨(q, cap), w', ⟨h6, h7⟩, by simp [execOp, resolve, invoke, builtin, hf.eval hx, hf.eval hy, h2], hst⟩) (fun p hp => k p.1 p.2 hp.1 hp.2)
/-- A row that is nil is there already. -/
theorem WC.rowNil {c : Code} (e size : Nat) (k : WC w0 n Q c ρ (.row e size (.slice none 0 0) 0 [] :: H)) : WC w0 n Q c ρ H := fun a w hf hs => k a w hf ⟨hs.below, fun i x hi => by
  cases i with
  | zero => simp at hi; subst hi; exact World.ownsRow_nil w _ e size
  | succ i => exact hs.ok i x (by simpa using hi), fun i j x y hx hy hij k hk => by
  cases i with
  | zero => simp at hx; subst hx; cases hk
  | succ i =>
    cases j with
    | zero => simp at hy; subst hy; intro h; cases h
    | succ j => exact hs.apart i j x y (by simpa using hx) (by simpa using hy) (by omega) k hk⟩
end
end Go.Proofs.YtlkkiimmangplaaGreatDoor
