/- Generations rolled in. -/
import Derived.Test.YtlkkiimmangplaaGreatDoorV
import Derived.Test.YtlkkiimmangplaaGreatDoorP10
namespace Go.Proofs.YtlkkiimmangplaaGreatDoor
open Go.RowKit
set_option linter.unusedVariables false
set_option linter.unusedSimpArgs false

def ints (l : List Int) : List Value := l.map (Value.int .i64)
theorem ints_one (l : List Int) : ∀ u ∈ ints l, u.oneCell' = true := by
  intro u hu
  obtain ⟨x, _, rfl⟩ := List.mem_map.1 hu
  rfl
/-- The first elements of a slice that reads as xs. -/
theorem Sl.news {w : World} {a off : Nat} {xs : List Int} (h : Sl encI 1 w (some ⟨a, off, none⟩) xs) (m : Nat) : ∀ j u, (ints (xs.take m))[j]? = some u → w.cell? ((⟨a, off, none⟩ : Addr).add j) = some u := by
  intro j u hu
  unfold ints at hu
  rw [List.getElem?_map] at hu
  cases hx : (xs.take m)[j]? with
  | none => rw [hx] at hu; cases hu
  | some x =>
    rw [hx] at hu
    simp at hu
    subst hu
    rw [List.getElem?_take] at hx
    split at hx
    · have hp : 0 < xs.length := by have := (List.getElem?_eq_some_iff.1 hx).1; omega
      obtain ⟨b, o, e, hc⟩ := h.at_ hp
      cases e
      have := hc j x hx 0 _ rfl
      rw [add0]
      simpa using this
    · cases hx

set_option maxRecDepth 100000 in
theorem drop_any (n pg pn a off c gl : Nat) (gv : Value) (gs now : List Int) (it : It) (w0 w : World) (H : List It) (hst : St w0 (.blk pg 22 #[gv] :: .blk pn 22 #[.slice (some ⟨a, off, none⟩) now.length c] :: .row 3 1 gv gl (ints gs) :: it :: H) w) (hnow : ∀ X Y R w, St w0 (X :: Y :: R :: it :: H) w → Sl encI 1 w (some ⟨a, off, none⟩) now) (hn : 0 < n) (hn' : n < now.length) (hc : now.length ≤ c) (hb : gl + n ≤ 100000) :
    Calls Tryz.prog 186 #[.int .i64 n, .pointer (some ⟨pg, 0, none⟩), .pointer (some ⟨pn, 0, none⟩)] w (fun e w' => ∃ q : Nat × Nat, True ∧ e = .returned (.tuple #[]) ∧ St w0 (.blk pg 22 #[.slice (some ⟨q.1, 0, none⟩) (gl + n) q.2] :: .blk pn 22 #[.slice (some ⟨a, off + n, none⟩) (now.length - n) (c - n)] :: .row 3 1 (.slice (some ⟨q.1, 0, none⟩) (gl + n) q.2) (gl + n) (ints gs ++ ints (now.take n)) :: it :: H) w') := by
  refine enterH Tryz.func186 rfl Tryz.ntmps186 rfl hst ?_
  refine WC.seq ?_
  apply WC.draws (al := [4]) (vs := [_, _, _, _, fun s => .slice (some ⟨(s 4).1, 0, none⟩) (gl + n) (s 4).2, fun _ => undef]) (Hs := fun v HH b s => (bnew (b 4) (.row 3 1 (.slice (some ⟨(s 4).1, 0, none⟩) (gl + n) (s 4).2) (gl + n) (ints gs ++ ints (now.take n))) (blay [(b 5, 0, 1, [v 4 s])] HH 0) 2)) (by kernel_rfl) (by kernel_rfl) (by kernel_rfl)
  case steps =>
    refine Stps.cons (Stp.pw [5] (by kernel_rfl) (fun b s hd => ⟨_, ⟨rfl, P.loadO 0 Tryz.isAgg22 rfl rfl rfl⟩, rfl, rfl⟩)) ?_
    refine Stps.cons (Stp.p (fun b s hd => ⟨_, ⟨rfl, P.loadO 1 Tryz.isAgg22 rfl rfl rfl⟩, rfl, rfl⟩)) ?_
    refine Stps.cons (Stp.p (fun b s hd => ⟨_, ⟨rfl, P.move rfl⟩, rfl, rfl⟩)) ?_
    refine Stps.cons (Stp.p (fun b s hd => ⟨_, ⟨rfl, P.cutH Tryz.underlying22 Tryz.sizeOf3 rfl rfl (by omega) (by omega)⟩, rfl, rfl⟩)) ?_
    refine Stps.cons (Stp.off [5] (by kernel_rfl) (Stp.appendOwn 2 (l := gl) (m := n) (xs := ints gs) (news := ints (now.take n)) el22 rfl hn (by simp [ints]; omega) (ints_one _) (by simp only [maxLen]; omega) (by omega) (fun b s => ⟨_, _, rfl, rfl, rfl, fun w hs => (hnow _ _ _ w hs).news n, ⟨_, rfl⟩, fun q => ⟨rfl, fun hb => rfl⟩⟩))) ?_
    refine Stps.cons (Stp.store 0 0 Tryz.sizeOf22 (fun b s hd => ⟨true, _, _, _, _, _, _, rfl, rfl, rfl, rfl, rfl, rfl, rfl, rfl, rfl, rfl, rfl⟩)) ?_
    exact Stps.nil
  case h0 => exact fun s => rfl
  case agree => exact AgrAll.cons (AgrL.no (fun s x => rfl) (AgrL.no (fun s x => rfl) (AgrL.no (fun s x => rfl) (AgrL.no (fun s x => rfl) (AgrL.yes (by kernel_rfl) (AgrL.yes (by kernel_rfl) (AgrL.nil))))))) (AgrAll.nil)
  intro s0
  refine End.shape (ρ' := [(0, _), (1, _), (2, _), (4, _), (5, _), (6, _), (7, _), (8, _)]) (H' := .blk _ _ #[_] :: _ :: _ :: _ :: H) (Env.sub_cons rfl (Env.sub_cons rfl (Env.sub_cons rfl (Env.sub_cons rfl (Env.sub_cons rfl (Env.sub_cons rfl (Env.sub_cons rfl (Env.sub_cons rfl (Env.sub_nil))))))))) rfl ?_
  refine End.seq ?_
  refine WC.region ?_
  refine WL.p rfl rfl rfl (P.loadO 1 Tryz.isAgg22 rfl rfl rfl) ?_
  refine WL.p rfl rfl rfl (P.move rfl) ?_
  refine WL.p rfl rfl rfl (P.cutL Tryz.underlying22 Tryz.sizeOf3 rfl rfl (by omega) (by omega) (by omega)) ?_
  refine WL.store 1 Tryz.sizeOf22 rfl rfl rfl rfl rfl rfl ?_
  refine WL.nil_ ?_
  refine End.norm ?_
  refine End.ret0 rfl ?_
  intro w' hs'
  simp only [Nat.mul_one, Int.toNat_natCast] at hs'
  exact ⟨s0 4, trivial, rfl, hs'⟩

theorem ints_app (a b : List Int) : ints a ++ ints b = ints (a ++ b) := by simp [ints]
theorem drop2_any (n pg pn a off c : Nat) (gv : Value) (gs now : List Int) (it : It) (w0 w : World) (H : List It) (hst : St w0 (.blk pg 22 #[gv] :: .blk pn 22 #[.slice (some ⟨a, off, none⟩) now.length c] :: .row 3 1 gv gs.length (ints gs) :: it :: H) w)
    (hnow : ∀ X Y R w, St w0 (X :: Y :: R :: it :: H) w → Sl encI 1 w (some ⟨a, off, none⟩) now) (hn : 0 < n) (hn' : n < now.length) (hc : now.length ≤ c) (hb : gs.length + n ≤ 100000) :
    Calls Tryz.prog 186 #[.int .i64 (n : Int), .pointer (some ⟨pg, 0, none⟩), .pointer (some ⟨pn, 0, none⟩)] w (fun e w' => ∃ q : Nat × Nat, True ∧ e = .returned (.tuple #[]) ∧ St w0 (.blk pg 22 #[.slice (some ⟨q.1, 0, none⟩) (gs ++ now.take n).length q.2] :: .blk pn 22 #[.slice (some ⟨a, off + n, none⟩) (now.drop n).length (c - n)] :: .row 3 1 (.slice (some ⟨q.1, 0, none⟩) (gs ++ now.take n).length q.2) (gs ++ now.take n).length (ints (gs ++ now.take n)) :: it :: H) w') := by
  refine (drop_any n pg pn a off c gs.length gv gs now it w0 w H hst hnow hn hn' hc hb).mono fun e w' h => ?_
  obtain ⟨q, h1, h2, h3⟩ := h
  have e1 : (gs ++ now.take n).length = gs.length + n := by simp; omega
  rw [ints_app] at h3
  exact ⟨q, h1, h2, by rw [e1, List.length_drop]; exact h3⟩

def genV (e : E) (xs : List Int) : Bool := decide (e.kind = 1) && (groupV e && fits xs e.last)
theorem sl_item {w0 w : World} {H : List It} {j n c : Nat} {A : Option Addr} {xs : List Int} (hs : St w0 H w) (hj : H[j]? = some (.row 3 1 (.slice A n c) n (ints xs))) (hl : xs.length ≤ 100000) : Sl encI 1 w A xs := by
  refine ⟨by omega, fun hp => ?_⟩
  have hr := hs.ok j _ hj
  rcases hr.2 with ⟨h1, h2⟩ | ⟨g, cap, cur, hv, _, hg, _⟩
  · have := hr.1
    simp [ints] at this
    omega
  · cases hv
    refine ⟨g, 0, rfl, fun k x hx i u hu => ?_⟩
    cases i with
    | succ i => simp [encI] at hu
    | zero =>
      simp [encI] at hu
      subst hu
      have hown : w.ownsRow w0.heap.size 3 1 (.slice (some ⟨g, 0, none⟩) n c) n (ints xs) := hr
      have := hown.cells (g := g) rfl k (.int .i64 x) (by simp [ints, hx])
      rw [add0] at this
      simpa using this
theorem clone_any (A : Option Addr) (c : Nat) (xs : List Int) (w : World) (hr : Sl encI 1 w A xs) (hl : xs.length ≤ 100000) :
    Calls Tryz.prog 113 #[.slice A xs.length c] w (Ret w (fun p : Option Addr × Nat => ((p.1 = none ∧ xs.length = 0) ∨ ∃ g, p.1 = some ⟨g, 0, none⟩) ∧ xs.length ≤ p.2) (fun p => .slice p.1 xs.length p.2) (fun p => [.row 3 1 (.slice p.1 xs.length p.2) xs.length (ints xs)])) := by
  have fin : ∀ (v' : Value) (w' : World), w'.ownsRow w.heap.size 3 1 v' xs.length (ints xs) → Below w.heap.size w w' → ∃ p : Option Addr × Nat, (((p.1 = none ∧ xs.length = 0) ∨ ∃ g, p.1 = some ⟨g, 0, none⟩) ∧ xs.length ≤ p.2) ∧ Ending.returned v' = .returned (.slice p.1 xs.length p.2) ∧ St w [.row 3 1 (.slice p.1 xs.length p.2) xs.length (ints xs)] w' := by
    intro v' w' hrow hb
    have hst : ∀ v'', v'' = v' → St w [.row 3 1 v'' xs.length (ints xs)] w' := by
      rintro _ rfl
      refine ⟨hb, fun i x hi => ?_, fun i j x y hx hy hij => ?_⟩
      · cases i with
        | zero => simp at hi; subst hi; exact hrow
        | succ i => simp at hi
      · cases i <;> cases j <;> simp_all
    rcases hrow.2 with ⟨rfl, h0⟩ | ⟨g, cap, cur, rfl, _, _, h1, _⟩
    · exact ⟨(none, 0), ⟨.inl ⟨rfl, h0⟩, by omega⟩, by rw [h0], hst _ (by rw [h0])⟩
    · exact ⟨(some ⟨g, 0, none⟩, cap), ⟨.inr ⟨g, rfl⟩, h1⟩, rfl, hst _ rfl⟩
  by_cases h0 : xs.length = 0
  · have hx : xs = [] := List.length_eq_zero_iff.1 h0
    subst hx
    cases A with
    | none =>
      exact (Tryz.slices_Clone_int_nil 0 c w).mono fun e w' ⟨h1, h2⟩ => by
        subst h2
        rw [h1]
        exact fin _ _ (World.ownsRow_nil w' _ 3 1) (Below.refl _ _)
    | some a =>
      exact (Tryz.slices_Clone_int_zero a c w).mono fun e w' ⟨v', h1, h2, _, h4⟩ => by
        rw [h1]
        exact fin _ _ h2 h4
  · obtain ⟨b, off, rfl, hc⟩ := hr.at_ (by omega)
    refine (Tryz.slices_Clone_int b off xs.length c xs w (Nat.le_refl _) (by omega) (fun j hj => ?_)).mono fun e w' ⟨v', h1, h2, _, h4⟩ => ?_
    · have := hc j xs[j] (by simp [hj]) 0 _ rfl
      simpa [List.getD, hj] using this
    · rw [h1]
      rw [List.take_length] at h2
      exact fin _ _ h2 h4
/-- One new generation: its number, what there is, what has gone. -/
def rollStep (limit : Int) (empty : Bool) (s : Int × List Int × List Int) (n : Int) : Except Int (Int × List Int × List Int) :=
  if n < 1 ∨ 9999 < n then .error 2 else if n ≤ s.1 then .error 9 else
  if ((s.2.1 ++ [n]).length : Int) - limit ≤ 0 then .ok (n, s.2.1 ++ [n], s.2.2) else
  .ok (n, (s.2.1 ++ [n]).drop (if empty then ((s.2.1 ++ [n]).length : Int) - 1 else ((s.2.1 ++ [n]).length : Int) - limit).toNat, s.2.2 ++ (s.2.1 ++ [n]).take (if empty then ((s.2.1 ++ [n]).length : Int) - 1 else ((s.2.1 ++ [n]).length : Int) - limit).toNat)
def roll (limit : Int) (empty : Bool) : Int × List Int × List Int → List Int → Except Int (Int × List Int × List Int)
  | s, [] => .ok s
  | s, n :: r => match rollStep limit empty s n with
    | .error c => .error c
    | .ok s' => roll limit empty s' r
theorem roll_app (limit : Int) (empty : Bool) : ∀ (l r : List Int) (s : Int × List Int × List Int), roll limit empty s (l ++ r) = match roll limit empty s l with | .error c => .error c | .ok s' => roll limit empty s' r
  | [], r, s => rfl
  | n :: l, r, s => by
    simp only [List.cons_append, roll]
    cases rollStep limit empty s n with
    | error c => rfl
    | ok s' => exact roll_app limit empty l r s'
theorem roll_snoc {limit : Int} {empty : Bool} {l : List Int} {k : Nat} {n : Int} {s s' : Int × List Int × List Int} (h : roll limit empty s (l.take k) = .ok s') (hx : l[k]? = some n) : roll limit empty s (l.take (k + 1)) = rollStep limit empty s' n := by
  rw [take_snoc hx, roll_app, h]
  simp only [roll]
  cases rollStep limit empty s' n <;> rfl
theorem roll_err {limit : Int} {empty : Bool} {l : List Int} {k : Nat} {c : Int} {s : Int × List Int × List Int} (h : roll limit empty s (l.take k) = .error c) : roll limit empty s l = .error c := by
  conv => lhs; rw [← List.take_append_drop k l]
  rw [roll_app, h]

set_option maxRecDepth 100000 in
theorem genValid_any (e : E) (va vg : Value) (A : Option Addr) (c : Nat) (xs : List Int) (w : World) (hg : Good w) (ha : EntAt w e va vg) (hr : Sl encI 1 w A xs) :
    Calls Tryz.prog 35 #[.agg (e.cells va vg), .slice A xs.length c] w (RetV w (.bool (genV e xs))) := by
  refine enter Tryz.func35 rfl Tryz.ntmps35 rfl ?_
  refine WC.seq ?_
  refine WC.region ?_
  refine WL.box rfl rfl rfl (fun b2 => ?_)
  refine WL.p rfl rfl rfl (P.assign rfl) ?_
  refine WL.nil_ ?_
  refine End.seq ?_
  refine WC.seq ?_
  refine WC.region ?_
  refine WL.p rfl rfl rfl (P.fieldAddr fa_34_0 rfl) ?_
  refine WL.p rfl rfl rfl (P.loadO 0 Tryz.isAgg3 rfl rfl rfl) ?_
  refine WL.p rfl rfl rfl (P.cmp rfl rfl rfl) ?_
  refine WL.p rfl rfl rfl (P.move rfl) ?_
  refine WL.split 8 rfl (fun hs8 => ?_) (fun hs8 => ?_)
  ·
    try simp only [decide_eq_true_eq, decide_eq_false_iff_not, beq_iff_eq, beq_eq_false_iff_ne, bne_iff_ne, bne_eq_false_iff_eq, Bool.not_eq_true', Bool.not_eq_false', ne_eq, Int.not_lt, Int.not_le] at hs8
    refine WL.p rfl rfl rfl (P.loadW 0 Tryz.isAgg34 Tryz.sizeOf34 rfl rfl rfl) ?_
    refine WL.callv (ent_of Tryz.func47 rfl rfl) rfl rfl rfl (fun w hs => validG_any e va vg w (hg.st hs) hs8 (ha.st hs)) ?_
    refine WL.p rfl rfl rfl (P.pickT rfl rfl) ?_
    refine WL.p rfl rfl rfl (P.move rfl) ?_
    refine WL.split 12 rfl (fun hs12 => ?_) (fun hs12 => ?_)
    ·
      try simp only [decide_eq_true_eq, decide_eq_false_iff_not, beq_iff_eq, beq_eq_false_iff_ne, bne_iff_ne, bne_eq_false_iff_eq, Bool.not_eq_true', Bool.not_eq_false', ne_eq, Int.not_lt, Int.not_le] at hs12
      refine WL.p rfl rfl rfl (P.move rfl) ?_
      refine WL.p rfl rfl rfl (P.fieldAddr fa_34_6 rfl) ?_
      refine WL.p rfl rfl rfl (P.loadO 0 Tryz.isAgg3 rfl rfl rfl) ?_
      refine WL.callv (ent_of Tryz.func91 rfl rfl) rfl rfl rfl (fun w hs => fits_any _ _ _ _ w (hr.st hs)) ?_
      refine WL.p rfl rfl rfl (P.pickT rfl rfl) ?_
      refine WL.p rfl rfl rfl (P.assign rfl) ?_
      refine WL.nil_ ?_
      refine End.seq ?_
      refine WC.ret ?_
      refine End.ret1 rfl rfl ?_
      exact fun w' hs' => RetV.of (by rw [genV, decide_eq_true hs8, hs12]; rfl) hs'
    ·
      try simp only [decide_eq_true_eq, decide_eq_false_iff_not, beq_iff_eq, beq_eq_false_iff_ne, bne_iff_ne, bne_eq_false_iff_eq, Bool.not_eq_true', Bool.not_eq_false', ne_eq, Int.not_lt, Int.not_le] at hs12
      refine WL.off rfl rfl ?_
      refine WL.off rfl rfl ?_
      refine WL.off rfl rfl ?_
      refine WL.off rfl rfl ?_
      refine WL.p rfl rfl rfl (P.pickF rfl rfl) ?_
      refine WL.p rfl rfl rfl (P.assign rfl) ?_
      refine WL.nil_ ?_
      refine End.seq ?_
      refine WC.ret ?_
      refine End.ret1 rfl rfl ?_
      exact fun w' hs' => RetV.of (by rw [genV, decide_eq_true hs8, hs12]; rfl) hs'
  ·
    try simp only [decide_eq_true_eq, decide_eq_false_iff_not, beq_iff_eq, beq_eq_false_iff_ne, bne_iff_ne, bne_eq_false_iff_eq, Bool.not_eq_true', Bool.not_eq_false', ne_eq, Int.not_lt, Int.not_le] at hs8
    refine WL.off rfl rfl ?_
    refine WL.off rfl rfl ?_
    refine WL.p rfl rfl rfl (P.pickF rfl rfl) ?_
    refine WL.p rfl rfl rfl (P.move rfl) ?_
    refine WL.off rfl rfl ?_
    refine WL.off rfl rfl ?_
    refine WL.off rfl rfl ?_
    refine WL.off rfl rfl ?_
    refine WL.p rfl rfl rfl (P.pickF rfl rfl) ?_
    refine WL.p rfl rfl rfl (P.assign rfl) ?_
    refine WL.nil_ ?_
    refine End.seq ?_
    refine WC.ret ?_
    refine End.ret1 rfl rfl ?_
    exact fun w' hs' => RetV.of (by rw [genV, decide_eq_false hs8]; rfl) hs'

end Go.Proofs.YtlkkiimmangplaaGreatDoor
