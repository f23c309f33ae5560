/- append of any slice; the greater and the smaller of two numbers. -/
import Derived.Test.YtlkkiimmangplaaGreatDoorV2
import Derived.Laws.Small
namespace Go.Proofs.YtlkkiimmangplaaGreatDoor
open Go.RowKit
set_option linter.unusedVariables false
set_option linter.unusedSimpArgs false

theorem append_any {w0 w : World} {H : List It} {t e size bytes ty : Nat} {z : Value} (hel : ElT t e size bytes z) (hs : St w0 H w) (j : Nat) {g n c : Nat} {xs : List Value} (hj : H[j]? = some (.row e size (.slice (some ⟨g, 0, none⟩) n c) n xs))
    (A : Option Addr) (m c' : Nat) (news : List Value) (hl : news.length = m * size) (hsrc : (A = none ∧ m = 0 ∧ c' = 0) ∨ ∃ a, A = some a ∧ ∀ j u, news[j]? = some u → w.cell? (a.add j) = some u) (h1 : ∀ u ∈ news, u.oneCell' = true)
    (h63 : n + m ≤ maxLen) (hbytes : (n + m) * bytes ≤ 140737488355328) :
    ∃ q cap w', n + m ≤ cap ∧ (Builtin.append_ #[t, t] ty #[.slice (some ⟨g, 0, none⟩) n c, .slice A m c']).run Tryz.prog w = .ok (.slice (some ⟨q, 0, none⟩) (n + m) cap) w' ∧ St w0 (H.set j (.row e size (.slice (some ⟨q, 0, none⟩) (n + m) cap) (n + m) (xs ++ news))) w' := by
  have hlen : j < H.length := (List.getElem?_eq_some_iff.1 hj).1
  rcases hsrc with ⟨rfl, rfl, rfl⟩ | ⟨a, rfl, hn⟩
  · obtain ⟨i, hi, hz, hsize, hby⟩ := hel.hi
    have hx : news = [] := List.length_eq_zero_iff.1 (by omega)
    subst hx
    have hown : w.ownsRow w0.heap.size e size (.slice (some ⟨g, 0, none⟩) n c) n xs := hs.ok j _ hj
    have h2 := run_append_owned_none (P := Tryz.prog) (w := w) w0.heap.size t ty e i size hel.ht hi (.slice (some ⟨g, 0, none⟩) n c) n xs hown
    refine ⟨g, c, w, ?_, h2, ?_⟩
    · rcases hown.2 with ⟨h3, _⟩ | ⟨g', cap', cur, h3, _, _, h4, _⟩
      · cases h3
      · cases h3; omega
    · rw [List.append_nil, Nat.add_zero]
      have : H.set j (.row e size (.slice (some ⟨g, 0, none⟩) n c) n xs) = H := by
        apply List.ext_getElem?
        intro k
        by_cases hk : j = k
        · subst hk
          rw [List.getElem?_set_self hlen, hj]
        · rw [List.getElem?_set_ne hk]
      rw [this]
      exact hs
  · obtain ⟨v', w', h2, h3, h4⟩ := append_own (ty := ty) hel hs j hj a m c' news hl hn h1 h63 hbytes
    have hrow := h3.ok j _ (List.getElem?_set_self hlen)
    rcases hrow.2 with ⟨h5, _⟩ | ⟨q, cap, cur, rfl, _, _, h6, _⟩
    · have := h4.1 h5
      cases this.1
    · exact ⟨q, cap, w', h6, h2, h3⟩
section
variable {w0 : World} {n : Nat} {ops : Array Oper} {Q : Exit → Act → World → Prop} {o : Oper} {rest : List Oper} {ρ : Env} {H : List It}
variable {d : Nat} {ty t t' : TypeId} {pos : String} {af : Array Edge} {g : Option (Nat × Bool)} {x y z : Operand} {v u : Value}
theorem P.max2 {t1 t2 : TypeId} {p q : Int} (hx : ev ρ x = some (.int .i64 p)) (hy : ev ρ y = some (.int .i64 q)) : Pure w0 n ρ H ⟨some d, .call ⟨.builtin .max, #[x, y], #[t1, t2]⟩, ty, pos, af, g⟩ (.int .i64 (if q > p then q else p)) :=
  fun a w hf _ => by simp [execOp, resolve, invoke, builtin, hf.eval hx, hf.eval hy, run_max_int2]
theorem P.min2 {t1 t2 : TypeId} {p q : Int} (hx : ev ρ x = some (.int .i64 p)) (hy : ev ρ y = some (.int .i64 q)) : Pure w0 n ρ H ⟨some d, .call ⟨.builtin .min, #[x, y], #[t1, t2]⟩, ty, pos, af, g⟩ (.int .i64 (if q < p then q else p)) :=
  fun a w hf _ => by simp [execOp, resolve, invoke, builtin, hf.eval hx, hf.eval hy, run_min_int2]
/-- append of any slice to an own row that is not nil. -/
theorem WL.extend (j : Nat) {e size bytes l c m c' lt b : Nat} {zv : Value} {A : Option Addr} {xs news all : List Value} (hel : ElT t e size bytes zv) (hon : onB ops ρ ⟨some d, .call ⟨.builtin .append, #[x, y], #[t, t]⟩, ty, pos, af, g⟩ = some true) (hd : Nat.blt d n = true) (hx : ev ρ x = some (.slice (some ⟨b, 0, none⟩) l c)) (hj : H[j]? = some (.row e size (.slice (some ⟨b, 0, none⟩) l c) l xs)) (hy : ev ρ y = some (.slice A m c'))
    (hl : news.length = m * size) (hsrc : ∀ w, St w0 H w → (A = none ∧ m = 0 ∧ c' = 0) ∨ ∃ a, A = some a ∧ ∀ j u, news[j]? = some u → w.cell? (a.add j) = some u) (h1 : ∀ u ∈ news, u.oneCell' = true) (hall : xs ++ news = all) (hlt : l + m = lt) (h63 : l + m ≤ maxLen) (hbytes : (l + m) * bytes ≤ 140737488355328)
    (k : ∀ q cap, lt ≤ cap → WL w0 n ops Q rest ((d, .slice (some ⟨q, 0, none⟩) lt cap) :: ρ) (H.set j (.row e size (.slice (some ⟨q, 0, none⟩) lt cap) lt all))) : WL w0 n ops Q (⟨some d, .call ⟨.builtin .append, #[x, y], #[t, t]⟩, ty, pos, af, g⟩ :: rest) ρ H := by
  subst hall hlt
  exact WL.valx (S := fun p : Nat × Nat => l + m ≤ p.2) (v := fun p => .slice (some ⟨p.1, 0, none⟩) (l + m) p.2) (H' := fun p => H.set j (.row e size (.slice (some ⟨p.1, 0, none⟩) (l + m) p.2) (l + m) (xs ++ news))) hon rfl hd (fun act w hf hs => by
    obtain ⟨q, cap, w', h6, h2, h3⟩ := append_any (ty := ty) hel hs j hj A m c' news hl (hsrc w hs) h1 h63 hbytes
    exact ⟨(q, cap), w', h6, by simp [execOp, resolve, invoke, builtin, hf.eval hx, hf.eval hy, h2], h3⟩) (fun p hp => k p.1 p.2 hp)
variable {vs : List (Lt → Value)} {Hs : (Nat → Bool) → Lt → List It} {al : List Nat} {i : Nat}
theorem Stp.row0 {e : Nat} {sz : Nat} (j : Nat) (hu : Tryz.prog.underlying t = some (.slice e)) (hsz : Sized e sz) (hi : al.contains i = true) (hr : ∀ (b : Nat → Bool) (s : Lt), (onB ops (envOf ops (fun j => nth vs j s) (dps ⟨some d, .buildSlice t 0 #[], ty, pos, af, g⟩) ++ ρ) ⟨some d, .buildSlice t 0 #[], ty, pos, af, g⟩ = some true) ∧
      ∀ q, nth vs i (updl s i (q, 0)) = .slice (some ⟨q, 0, none⟩) 0 0 ∧ ∃ X, (Hs b s)[j]? = some (bif b i then X else .nil) ∧ (b i = false → Hs (up b i) (updl s i (q, 0)) = (Hs b s).set j (.row e 1 (.slice (some ⟨q, 0, none⟩) 0 0) 0 []))) : Stp w0 n ops Q ρ vs Hs al i ⟨some d, .buildSlice t 0 #[], ty, pos, af, g⟩ := fun b s hcl hb hd => by
  obtain ⟨hon, hq⟩ := hr b s
  refine OS.val hon fun a w hf hs => ⟨.slice (some ⟨w.heap.size, 0, none⟩) 0 0, w.alloc (.cells #[] e), ?_, ?_⟩
  · simp [execOp, run_buildSlice0 hu hsz w]
  · obtain ⟨h1, X, hj, h2⟩ := hq w.heap.size
    rw [hb] at hj
    refine ⟨_, .inr ⟨by simpa using hi, (w.heap.size, 0), rfl⟩, h1.symm, ?_⟩
    rw [h2 hb]
    have hb2 := hs.below.alloc hs.size (.cells #[] e)
    refine hs.swap j hj (fun k hk => .inr ?_) ⟨rfl, .inr ⟨w.heap.size, 0, #[], rfl, hs.size, heap_alloc_new w _, Nat.le_refl _, by decide, rfl, rfl⟩⟩ hb2 (fun k hk _ => ?_)
    · simp [It.key, Value.ownBlock] at hk; omega
    · exact ((Below.refl w.heap.size w).alloc (Nat.le_refl _) _).block k hk
theorem Stp.extend (j : Nat) {e size bytes m lt : Nat} {zv : Value} {news all : List Value} (hel : ElT t e size bytes zv) (hi : al.contains i = true) (hl : news.length = m * size) (h1 : ∀ u ∈ news, u.oneCell' = true)
    (hr : ∀ (b : Nat → Bool) (s : Lt), (∀ j ∈ dps ⟨some d, .call ⟨.builtin .append, #[x, y], #[t, t]⟩, ty, pos, af, g⟩, b j = true) → ∃ (p l c : Nat) (xs : List Value) (A : Option Addr) (c' : Nat), (onB ops (envOf ops (fun j => nth vs j s) (dps ⟨some d, .call ⟨.builtin .append, #[x, y], #[t, t]⟩, ty, pos, af, g⟩) ++ ρ) ⟨some d, .call ⟨.builtin .append, #[x, y], #[t, t]⟩, ty, pos, af, g⟩ = some true) ∧
      ev (envOf ops (fun j => nth vs j s) (dps ⟨some d, .call ⟨.builtin .append, #[x, y], #[t, t]⟩, ty, pos, af, g⟩) ++ ρ) x = some (.slice (some ⟨p, 0, none⟩) l c) ∧ ev (envOf ops (fun j => nth vs j s) (dps ⟨some d, .call ⟨.builtin .append, #[x, y], #[t, t]⟩, ty, pos, af, g⟩) ++ ρ) y = some (.slice A m c') ∧
      (∀ w, St w0 (Hs b s) w → (A = none ∧ m = 0 ∧ c' = 0) ∨ ∃ a, A = some a ∧ ∀ j u, news[j]? = some u → w.cell? (a.add j) = some u) ∧ (∃ Y, (Hs b s)[j]? = some (bif b i then Y else .row e size (.slice (some ⟨p, 0, none⟩) l c) l xs)) ∧ xs ++ news = all ∧ l + m = lt ∧ l + m ≤ maxLen ∧ (l + m) * bytes ≤ 140737488355328 ∧
      ∀ q : Nat × Nat, nth vs i (updl s i q) = .slice (some ⟨q.1, 0, none⟩) lt q.2 ∧ (b i = false → Hs (up b i) (updl s i q) = (Hs b s).set j (.row e size (.slice (some ⟨q.1, 0, none⟩) lt q.2) lt all))) : Stp w0 n ops Q ρ vs Hs al i ⟨some d, .call ⟨.builtin .append, #[x, y], #[t, t]⟩, ty, pos, af, g⟩ := fun b s hcl hb hd => by
  obtain ⟨p, l, c, xs, A, c', hon, hx, hy, hsrc, ⟨Y, hj⟩, rfl, rfl, h63, hbytes, hq⟩ := hr b s hd
  rw [hb] at hj
  refine OS.val hon fun act w hf hs => ?_
  obtain ⟨q, cap, w', h6, h2, h3⟩ := append_any (ty := ty) hel hs j hj A m c' news hl (hsrc w hs) h1 h63 hbytes
  obtain ⟨h8, h7⟩ := hq (q, cap)
  refine ⟨_, w', by simp [execOp, resolve, invoke, builtin, hf.eval hx, hf.eval hy, h2], _, .inr ⟨by simpa using hi, (q, cap), rfl⟩, h8.symm, ?_⟩
  rw [h7 hb]
  exact h3
end
/-- What append takes of a slice that reads. -/
theorem Sl.src {w : World} {A : Option Addr} {xs : List Int} {c m : Nat} (h : Sl encI 1 w A xs) (hc : A = none → c = 0) (hm : m ≤ xs.length) : (A = none ∧ m = 0 ∧ c = 0) ∨ ∃ a, A = some a ∧ ∀ j u, (ints (xs.take m))[j]? = some u → w.cell? (a.add j) = some u := by
  cases A with
  | none =>
    refine .inl ⟨rfl, ?_, hc rfl⟩
    rcases Nat.eq_zero_or_pos xs.length with h0 | h0
    · omega
    · obtain ⟨b, off, e, _⟩ := h.at_ h0
      cases e
  | some a =>
    refine .inr ⟨a, rfl, ?_⟩
    rcases Nat.eq_zero_or_pos xs.length with h0 | h0
    · have : xs = [] := List.length_eq_zero_iff.1 h0
      subst this
      intro j u hu
      simp [ints] at hu
    · obtain ⟨b, off, e, _⟩ := h.at_ h0
      cases e
      exact h.news m

end Go.Proofs.YtlkkiimmangplaaGreatDoor
