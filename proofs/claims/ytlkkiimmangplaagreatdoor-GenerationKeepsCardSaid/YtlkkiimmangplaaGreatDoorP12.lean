/- fold. -/
import Derived.Test.YtlkkiimmangplaaGreatDoorP11
namespace Go.Proofs.YtlkkiimmangplaaGreatDoor
open Go.RowKit
set_option linter.unusedVariables false
set_option linter.unusedSimpArgs false

theorem St.nil {w0 w : World} {H : List It} (hs : St w0 H w) : St w0 (.nil :: H) w := ⟨hs.below, fun i x hi => by
  cases i with
  | zero => simp at hi; subst hi; trivial
  | succ i => exact hs.ok i x (by simpa using hi), fun i j x y hx hy hij k hk => by
  cases i with
  | zero => simp at hx; subst hx; cases hk
  | succ i =>
    cases j with
    | zero => simp at hy; subst hy; intro h; cases h
    | succ j => exact hs.apart i j x y (by simpa using hx) (by simpa using hy) (by omega) k hk⟩
theorem Sl.drop {w : World} {a off : Nat} {xs : List Int} (h : Sl encI 1 w (some ⟨a, off, none⟩) xs) (m : Nat) : Sl encI 1 w (some ⟨a, off + m, none⟩) (xs.drop m) := by
  refine ⟨by have := h.1; rw [List.length_drop]; omega, fun hp => ?_⟩
  rw [List.length_drop] at hp
  obtain ⟨b, o, e, hc⟩ := h.at_ (by omega)
  cases e
  refine ⟨a, off + m, rfl, fun k x hx i u hu => ?_⟩
  rw [List.getElem?_drop] at hx
  have := hc (m + k) x hx i u hu
  rw [show off + m + ((k : Nat) : Int).toNat * 1 + i = off + (((m + k : Nat) : Int)).toNat * 1 + i by omega]
  exact this
def foldP (e : E) (xs ls : List Int) : Except Int (Int × List Int × List Int) := if genV e xs = true then roll e.limit e.empty (e.last, xs, []) ls else .error 1
theorem groupV_limit {e : E} {xs : List Int} (h : genV e xs = true) : 1 ≤ e.limit ∧ e.limit ≤ 63 ∧ 0 ≤ e.last ∧ e.last ≤ 9999 := by
  unfold genV groupV groupOK at h
  simp only [Bool.and_eq_true] at h
  have h1 := inB_one h.2.1.2.1.1
  have h2 := inB_one h.2.1.2.1.2.1
  omega
theorem step_none {limit : Int} {empty : Bool} {s : Int × List Int × List Int} {n : Int} (h1 : ¬ (n < 1 ∨ 9999 < n)) (h2 : ¬ n ≤ s.1) (h3 : ((s.2.1 ++ [n]).length : Int) - limit ≤ 0) : rollStep limit empty s n = .ok (n, s.2.1 ++ [n], s.2.2) := by rw [rollStep, if_neg h1, if_neg h2, if_pos h3]
theorem step_drop {limit : Int} {empty : Bool} {s : Int × List Int × List Int} {n : Int} {m : Nat} (h1 : ¬ (n < 1 ∨ 9999 < n)) (h2 : ¬ n ≤ s.1) (h3 : 0 < ((s.2.1 ++ [n]).length : Int) - limit) (hm : (m : Int) = if empty = true then ((s.2.1 ++ [n]).length : Int) - 1 else ((s.2.1 ++ [n]).length : Int) - limit) :
    rollStep limit empty s n = .ok (n, (s.2.1 ++ [n]).drop m, s.2.2 ++ (s.2.1 ++ [n]).take m) := by
  rw [rollStep, if_neg h1, if_neg h2, if_neg (by omega), ← hm]
  simp
theorem foldP_err {e : E} {xs ls : List Int} {k : Nat} {c : Int} (hv : genV e xs = true) (h : roll e.limit e.empty (e.last, xs, []) (ls.take k) = .error c) : foldP e xs ls = .error c := by rw [foldP, if_pos hv]; exact roll_err h
/-- What fold hands back. -/
def FoldR (w : World) (e : E) (va vg : Value) (r : Except Int (Int × List Int × List Int)) : Ending → World → Prop := match r with
  | .error c => RetV w (.tuple #[.agg (E.zero.cells vnil vnil), vnil, vnil, .int .i64 c])
  | .ok (last, now, gone) => Ret w (fun p : Option Addr × Nat × Value × It => (∀ B w', St B [.row 3 1 p.2.2.1 gone.length (ints gone), p.2.2.2] w' → Sl encI 1 w' p.1 now) ∧ now.length ≤ p.2.1 ∧ now.length ≤ 1000 ∧ gone.length ≤ 1000)
      (fun p => .tuple #[.agg ({ e with last := last }.cells va vg), .slice p.1 now.length p.2.1, p.2.2.1, .int .i64 0]) (fun p => [.row 3 1 p.2.2.1 gone.length (ints gone), p.2.2.2])
theorem FoldR.err {w : World} {e : E} {va vg : Value} {r : Except Int (Int × List Int × List Int)} {c : Int} {H : List It} {w' : World} {v : Value} (h : r = .error c) (hv : v = .tuple #[.agg (E.zero.cells vnil vnil), vnil, vnil, .int .i64 c]) (hs : St w H w') : FoldR w e va vg r (.returned v) w' := by
  subst h
  exact RetV.of hv hs

set_option maxRecDepth 100000 in
theorem fold_any (e : E) (va vg : Value) (A0 A9 : Option Addr) (c0 c9 : Nat) (xs ls : List Int) (w : World) (hg : Good w) (ha : EntAt w e va vg) (hr : Sl encI 1 w A0 xs) (hr9 : Sl encI 1 w A9 ls) (hx : xs.length ≤ 100) (hls : ls.length ≤ 100) :
    Calls Tryz.prog 93 #[.agg (e.cells va vg), .slice A0 xs.length c0, .slice A9 ls.length c9] w (FoldR w e va vg (foldP e xs ls)) := by
  have ha0 := ha
  obtain ⟨⟨A1, c1, rfl, hc1, hr1⟩, ⟨A2, c2, rfl, hc2, hr2⟩⟩ := ha
  refine enter Tryz.func93 rfl Tryz.ntmps93 rfl ?_
  refine WC.seq ?_
  refine WC.region ?_
  refine WL.box rfl rfl rfl (fun b3 => ?_)
  refine WL.alloc Tryz.zeroValue34 rfl rfl (fun b6 => ?_)
  refine WL.p rfl rfl rfl (P.assign rfl) ?_
  refine WL.p rfl rfl rfl (P.assign rfl) ?_
  refine WL.p rfl rfl rfl (P.assign rfl) ?_
  refine WL.nil_ ?_
  refine End.seq ?_
  refine WC.seq ?_
  refine WC.seq ?_
  refine WC.region ?_
  refine WL.p rfl rfl rfl (P.loadW 1 Tryz.isAgg34 Tryz.sizeOf34 rfl rfl rfl) ?_
  refine WL.p rfl rfl rfl (P.move rfl) ?_
  refine WL.callv (ent_of Tryz.func35 rfl rfl) rfl rfl rfl (fun w hs => genValid_any e _ _ A0 c0 xs w (hg.st hs) (ha0.st hs) (hr.st hs)) ?_
  refine WL.p rfl rfl rfl (P.not_ rfl) ?_
  refine WL.nil_ ?_
  refine End.seq ?_
  refine WC.cond rfl (fun hc19 => ?_) (fun hc19 => ?_)
  ·
    try simp only [decide_eq_true_eq, decide_eq_false_iff_not, beq_iff_eq, beq_eq_false_iff_ne, bne_iff_ne, bne_eq_false_iff_eq, Bool.not_eq_true', Bool.not_eq_false', ne_eq, Int.not_lt, Int.not_le] at hc19
    refine WC.seq ?_
    refine WC.region ?_
    refine WL.p rfl rfl rfl (P.build rfl (fun w => bo_34 Tryz.zeroValue34 (cs := #[_, _, _, _, _, _, _, _, _, _, _, _, _, _, _, _, _, _, _, _, _, _, _, _, _, _, _, _, _, _, _, _, _]) rfl rfl w)) ?_
    refine WL.storeW 0 Tryz.sizeOf34 rfl rfl rfl rfl rfl rfl rfl ?_
    refine WL.p rfl rfl rfl (P.assign rfl) ?_
    refine WL.p rfl rfl rfl (P.assign rfl) ?_
    refine WL.p rfl rfl rfl (P.assign rfl) ?_
    refine WL.nil_ ?_
    refine End.seq ?_
    refine WC.ret ?_
    refine End.thenR ?_
    refine End.retCTTT 0 rfl Tryz.isAgg34 Tryz.sizeOf34 rfl rfl rfl rfl rfl rfl ?_
    exact fun w' hs' => FoldR.err (by rw [foldP, if_neg (by rw [hc19]; simp)]) rfl hs'
  ·
    try simp only [decide_eq_true_eq, decide_eq_false_iff_not, beq_iff_eq, beq_eq_false_iff_ne, bne_iff_ne, bne_eq_false_iff_eq, Bool.not_eq_true', Bool.not_eq_false', ne_eq, Int.not_lt, Int.not_le] at hc19
    have hlim := groupV_limit hc19
    refine WC.skip ?_
    refine End.seq ?_
    refine WC.seq ?_
    refine WC.region ?_
    refine WL.p rfl rfl rfl (P.move rfl) ?_
    refine WL.callx (ent_of Tryz.func113 rfl rfl) rfl rfl rfl (fun w hs => clone_any A0 c0 xs w (hr.st hs) (by omega)) (fun p hp => ?_)
    refine WL.alloc Tryz.zeroValue22 rfl rfl (fun b10 => ?_)
    refine WL.store 0 Tryz.sizeOf22 rfl rfl rfl rfl rfl rfl ?_
    refine WL.nil_ ?_
    refine End.seq ?_
    refine WC.seq ?_
    refine WC.region ?_
    refine WL.alloc Tryz.zeroValue22 rfl rfl (fun b11 => ?_)
    refine WL.nil_ ?_
    refine End.seq ?_
    refine WC.seq ?_
    refine WC.region ?_
    refine WL.p rfl rfl rfl (P.makeFunc rfl) ?_
    refine WL.p rfl rfl rfl (P.assign rfl) ?_
    refine WL.nil_ ?_
    refine End.seq ?_
    refine WC.seq ?_
    refine WC.seq ?_
    refine WC.region ?_
    refine WL.p rfl rfl rfl (P.move rfl) ?_
    refine WL.p rfl rfl rfl (P.lenR Tryz.underlying22 rfl) ?_
    refine WL.p rfl rfl rfl (P.move rfl) ?_
    refine WL.nil_ ?_
    refine End.seq ?_
    refine WC.block ?_
    refine WC.rowNil 3 1 ?_
    refine WC.loopD (σ := Nat × Int × List Int × Option Addr × Nat × List Int × Value × It) (fun (k, last, now, A, c, gone, gv, it) => [(26, .int .i64 (k : Nat))]) (fun (k, last, now, A, c, gone, gv, it) => [.blk b11 22 #[gv], .blk b10 22 #[.slice A now.length c], .row 3 1 gv gone.length (ints gone), it, .blk b6 34 (E.zero.cells vnil vnil), .blk b3 34 ({ e with last := last }.cells (.slice A1 e.alt.length c1) (.slice A2 e.grants.length c2))]) (fun (k, last, now, A, c, gone, gv, it) => k ≤ ls.length ∧ roll e.limit e.empty (e.last, xs, []) (ls.take k) = .ok (last, now, gone) ∧ now.length ≤ c ∧ ((A = none ∧ now.length = 0) ∨ ∃ a off, A = some ⟨a, off, none⟩) ∧ (∀ (B : World) (X Y R : It) (T : List It) (w' : World), St B (X :: Y :: R :: it :: T) w' → Sl encI 1 w' A now) ∧ now.length + gone.length ≤ xs.length + k) (fun (k, last, now, A, c, gone, gv, it) => ls.length - k) (0, e.last, xs, p.1, p.2, [], .slice none 0 0, .row 3 1 (.slice p.1 xs.length p.2) xs.length (ints xs)) ⟨Nat.zero_le _, rfl, hp.2, hp.1.imp id (fun ⟨g, h⟩ => ⟨g, 0, h⟩), fun B X Y R T w' hs => sl_item hs (j := 3) rfl (by omega), by simp⟩ (Env.sub_cons rfl (Env.sub_nil)) [1, 2, 0, 3, 4, 5] rfl rfl ?_
    rintro ⟨k, last, now, A, c, gone, gv, it⟩ ⟨hk, hroll, hnc, hA, hnow, hnl⟩
    have hL : ({ e with last := last } : E).limit = e.limit := rfl
    have hL2 : ({ e with last := last } : E).empty = e.empty := rfl
    have hL3 : ({ e with last := last } : E).last = last := rfl
    refine WC.seq ?_
    refine WC.region ?_
    refine WL.p rfl rfl rfl (P.cmp rfl rfl rfl) ?_
    refine WL.nil_ ?_
    refine End.seq ?_
    refine WC.seq ?_
    refine WC.cond rfl (fun hc27 => ?_) (fun hc27 => ?_)
    ·
      try simp only [decide_eq_true_eq, decide_eq_false_iff_not, beq_iff_eq, beq_eq_false_iff_ne, bne_iff_ne, bne_eq_false_iff_eq, Bool.not_eq_true', Bool.not_eq_false', ne_eq, Int.not_lt, Int.not_le] at hc27
      obtain ⟨bl, ol, rfl, hcl⟩ := hr9.at_ (by omega)
      obtain ⟨n, hn⟩ := get_of_lt (xs := ls) (k := k) (by omega)
      refine WC.skip ?_
      refine End.seq ?_
      refine WC.seq ?_
      refine WC.block ?_
      refine WC.seq ?_
      refine WC.region ?_
      refine WL.p rfl rfl rfl (P.elemAddr Tryz.underlying22 Tryz.sizeOf3 rfl rfl (by omega) (by omega)) ?_
      refine WL.p rfl rfl rfl (P.loadB Tryz.isAgg3 rfl (hcl k n hn 0 _ rfl)) ?_
      refine WL.p rfl rfl rfl (P.assign rfl) ?_
      refine WL.nil_ ?_
      refine End.seq ?_
      refine WC.seq ?_
      refine WC.block ?_
      refine WC.seq ?_
      refine WC.region ?_
      refine WL.p rfl rfl rfl (P.move rfl) ?_
      refine WL.p rfl rfl rfl (P.cmp rfl rfl rfl) ?_
      refine WL.p rfl rfl rfl (P.move rfl) ?_
      refine WL.split 33 rfl (fun hs33 => ?_) (fun hs33 => ?_)
      ·
        try simp only [decide_eq_true_eq, decide_eq_false_iff_not, beq_iff_eq, beq_eq_false_iff_ne, bne_iff_ne, bne_eq_false_iff_eq, Bool.not_eq_true', Bool.not_eq_false', ne_eq, Int.not_lt, Int.not_le] at hs33
        refine WL.off rfl rfl ?_
        refine WL.off rfl rfl ?_
        refine WL.p rfl rfl rfl (P.pickT rfl rfl) ?_
        refine WL.p rfl rfl rfl (P.assign rfl) ?_
        refine WL.nil_ ?_
        refine End.seq ?_
        refine WC.condT rfl ?_
        refine WC.seq ?_
        refine WC.region ?_
        refine WL.p rfl rfl rfl (P.build rfl (fun w => bo_34 Tryz.zeroValue34 (cs := #[_, _, _, _, _, _, _, _, _, _, _, _, _, _, _, _, _, _, _, _, _, _, _, _, _, _, _, _, _, _, _, _, _]) rfl rfl w)) ?_
        refine WL.storeW 4 Tryz.sizeOf34 rfl rfl rfl rfl rfl rfl rfl ?_
        refine WL.p rfl rfl rfl (P.assign rfl) ?_
        refine WL.p rfl rfl rfl (P.assign rfl) ?_
        refine WL.p rfl rfl rfl (P.assign rfl) ?_
        refine WL.nil_ ?_
        refine End.seq ?_
        refine WC.ret ?_
        refine End.blkR ?_
        refine End.thenR ?_
        refine End.blkR ?_
        refine End.thenR ?_
        refine End.thenR ?_
        refine End.blkR ?_
        refine End.thenR ?_
        refine End.retCTTT 4 rfl Tryz.isAgg34 Tryz.sizeOf34 rfl rfl rfl rfl rfl rfl ?_
        exact fun w' hs' => FoldR.err (foldP_err hc19 (k := k + 1) (by rw [roll_snoc hroll hn, rollStep, if_pos (by omega)])) rfl hs'
      ·
        try simp only [decide_eq_true_eq, decide_eq_false_iff_not, beq_iff_eq, beq_eq_false_iff_ne, bne_iff_ne, bne_eq_false_iff_eq, Bool.not_eq_true', Bool.not_eq_false', ne_eq, Int.not_lt, Int.not_le] at hs33
        refine WL.p rfl rfl rfl (P.move rfl) ?_
        refine WL.p rfl rfl rfl (P.cmp rfl rfl rfl) ?_
        refine WL.p rfl rfl rfl (P.pickF rfl rfl) ?_
        refine WL.p rfl rfl rfl (P.assign rfl) ?_
        refine WL.nil_ ?_
        refine End.seq ?_
        refine WC.cond rfl (fun hc30 => ?_) (fun hc30 => ?_)
        ·
          try simp only [decide_eq_true_eq, decide_eq_false_iff_not, beq_iff_eq, beq_eq_false_iff_ne, bne_iff_ne, bne_eq_false_iff_eq, Bool.not_eq_true', Bool.not_eq_false', ne_eq, Int.not_lt, Int.not_le] at hc30
          refine WC.seq ?_
          refine WC.region ?_
          refine WL.p rfl rfl rfl (P.build rfl (fun w => bo_34 Tryz.zeroValue34 (cs := #[_, _, _, _, _, _, _, _, _, _, _, _, _, _, _, _, _, _, _, _, _, _, _, _, _, _, _, _, _, _, _, _, _]) rfl rfl w)) ?_
          refine WL.storeW 4 Tryz.sizeOf34 rfl rfl rfl rfl rfl rfl rfl ?_
          refine WL.p rfl rfl rfl (P.assign rfl) ?_
          refine WL.p rfl rfl rfl (P.assign rfl) ?_
          refine WL.p rfl rfl rfl (P.assign rfl) ?_
          refine WL.nil_ ?_
          refine End.seq ?_
          refine WC.ret ?_
          refine End.blkR ?_
          refine End.thenR ?_
          refine End.blkR ?_
          refine End.thenR ?_
          refine End.thenR ?_
          refine End.blkR ?_
          refine End.thenR ?_
          refine End.retCTTT 4 rfl Tryz.isAgg34 Tryz.sizeOf34 rfl rfl rfl rfl rfl rfl ?_
          exact fun w' hs' => FoldR.err (foldP_err hc19 (k := k + 1) (by rw [roll_snoc hroll hn, rollStep, if_pos (by omega)])) rfl hs'
        ·
          try simp only [decide_eq_true_eq, decide_eq_false_iff_not, beq_iff_eq, beq_eq_false_iff_ne, bne_iff_ne, bne_eq_false_iff_eq, Bool.not_eq_true', Bool.not_eq_false', ne_eq, Int.not_lt, Int.not_le] at hc30
          refine WC.seq ?_
          refine WC.region ?_
          refine WL.p rfl rfl rfl (P.move rfl) ?_
          refine WL.p rfl rfl rfl (P.fieldAddr fa_34_6 rfl) ?_
          refine WL.p rfl rfl rfl (P.loadO 5 Tryz.isAgg3 rfl rfl rfl) ?_
          refine WL.p rfl rfl rfl (P.cmp rfl rfl rfl) ?_
          refine WL.p rfl rfl rfl (P.assign rfl) ?_
          refine WL.nil_ ?_
          refine End.seq ?_
          refine WC.cond rfl (fun hc38 => ?_) (fun hc38 => ?_)
          ·
            try simp only [decide_eq_true_eq, decide_eq_false_iff_not, beq_iff_eq, beq_eq_false_iff_ne, bne_iff_ne, bne_eq_false_iff_eq, Bool.not_eq_true', Bool.not_eq_false', ne_eq, Int.not_lt, Int.not_le] at hc38
            refine WC.seq ?_
            refine WC.region ?_
            refine WL.p rfl rfl rfl (P.build rfl (fun w => bo_34 Tryz.zeroValue34 (cs := #[_, _, _, _, _, _, _, _, _, _, _, _, _, _, _, _, _, _, _, _, _, _, _, _, _, _, _, _, _, _, _, _, _]) rfl rfl w)) ?_
            refine WL.storeW 4 Tryz.sizeOf34 rfl rfl rfl rfl rfl rfl rfl ?_
            refine WL.p rfl rfl rfl (P.assign rfl) ?_
            refine WL.p rfl rfl rfl (P.assign rfl) ?_
            refine WL.p rfl rfl rfl (P.assign rfl) ?_
            refine WL.nil_ ?_
            refine End.seq ?_
            refine WC.ret ?_
            refine End.blkR ?_
            refine End.thenR ?_
            refine End.blkR ?_
            refine End.thenR ?_
            refine End.thenR ?_
            refine End.blkR ?_
            refine End.thenR ?_
            refine End.retCTTT 4 rfl Tryz.isAgg34 Tryz.sizeOf34 rfl rfl rfl rfl rfl rfl ?_
            exact fun w' hs' => FoldR.err (foldP_err hc19 (k := k + 1) (by rw [roll_snoc hroll hn, rollStep, if_neg (by omega), if_pos (show n ≤ last from by omega)])) rfl hs'
          ·
            try simp only [decide_eq_true_eq, decide_eq_false_iff_not, beq_iff_eq, beq_eq_false_iff_ne, bne_iff_ne, bne_eq_false_iff_eq, Bool.not_eq_true', Bool.not_eq_false', ne_eq, Int.not_lt, Int.not_le] at hc38
            refine WC.skip ?_
            refine End.blkN ?_
            refine End.seq ?_
            refine WC.seq ?_
            refine WC.region ?_
            refine WL.p rfl rfl rfl (P.move rfl) ?_
            refine WL.p rfl rfl rfl (P.fieldAddr fa_34_6 rfl) ?_
            refine WL.store 5 Tryz.sizeOf3 rfl rfl rfl rfl rfl rfl ?_
            refine WL.nil_ ?_
            refine End.seq ?_
            refine WC.seq ?_
            refine WC.region ?_
            refine WL.p rfl rfl rfl (P.loadO 1 Tryz.isAgg22 rfl rfl rfl) ?_
            refine WL.p rfl rfl rfl (P.loadO 1 Tryz.isAgg22 rfl rfl rfl) ?_
            refine WL.p rfl rfl rfl (P.lenR Tryz.underlying22 rfl) ?_
            refine WL.p rfl rfl rfl (P.loadO 1 Tryz.isAgg22 rfl rfl rfl) ?_
            refine WL.p rfl rfl rfl (P.lenR Tryz.underlying22 rfl) ?_
            refine WL.p rfl rfl rfl (P.cutHM Tryz.underlying22 Tryz.sizeOf3 rfl rfl rfl (by omega) (by omega) (by omega)) ?_
            refine WL.p rfl rfl rfl (P.move rfl) ?_
            refine WL.row Tryz.underlying22 Tryz.sizeOf3 Tryz.zeroValue3 rfl rfl rfl rfl rfl rfl rfl rfl rfl (fun b53 => ?_)
            have hlen1 : (now ++ [n]).length = now.length + 1 := by simp
            refine WL.appendFresh (olds := ints now) (news := ints [n]) (all := ints (now ++ [n])) (lt := (now ++ [n]).length) el22 rfl rfl rfl rfl (by simp [ints]) (fun w hs => hA.imp id (fun ⟨a, off, h⟩ => ⟨⟨a, off, none⟩, h, fun j u hu => Sl.news (off := off) (a := a) (by rw [← h]; exact hnow _ _ _ _ _ w hs.tail) now.length j u (by rw [List.take_length]; exact hu)⟩)) (by simp [ints]) (fun w hs => (slI_row hs (j := 0) (xs := [n]) rfl rfl (by simp)).news 1) (ints_one _) (ints_app _ _) hlen1.symm (by decide) (by simp only [maxLen]; simp; omega) (by simp; omega) (fun q cap hcap hmax => ?_)
            refine WL.store 3 Tryz.sizeOf22 rfl rfl rfl rfl rfl rfl ?_
            refine WL.nil_ ?_
            refine End.seq ?_
            refine WC.seq ?_
            refine WC.region ?_
            refine WL.p rfl rfl rfl (P.loadO 3 Tryz.isAgg22 rfl rfl rfl) ?_
            refine WL.p rfl rfl rfl (P.lenR Tryz.underlying22 rfl) ?_
            refine WL.p rfl rfl rfl (P.fieldAddr fa_34_5 rfl) ?_
            refine WL.p rfl rfl rfl (P.loadO 7 Tryz.isAgg3 rfl rfl rfl) ?_
            refine WL.p rfl rfl rfl (P.ari64 rfl rfl rfl (by omega)) ?_
            refine WL.p rfl rfl rfl (P.assign rfl) ?_
            refine WL.nil_ ?_
            refine End.seq ?_
            refine WC.seq ?_
            refine WC.region ?_
            refine WL.p rfl rfl rfl (P.move rfl) ?_
            refine WL.p rfl rfl rfl (P.cmp rfl rfl rfl) ?_
            refine WL.nil_ ?_
            refine End.seq ?_
            refine WC.cond rfl (fun hc61 => ?_) (fun hc61 => ?_)
            ·
              try simp only [decide_eq_true_eq, decide_eq_false_iff_not, beq_iff_eq, beq_eq_false_iff_ne, bne_iff_ne, bne_eq_false_iff_eq, Bool.not_eq_true', Bool.not_eq_false', ne_eq, Int.not_lt, Int.not_le] at hc61
              refine WC.seq ?_
              refine WC.seq ?_
              refine WC.region ?_
              refine WL.p rfl rfl rfl (P.fieldAddr fa_34_7 rfl) ?_
              refine WL.p rfl rfl rfl (P.loadO 7 Tryz.isAgg4 rfl rfl rfl) ?_
              refine WL.nil_ ?_
              refine End.seq ?_
              refine WC.cond rfl (fun hc63 => ?_) (fun hc63 => ?_)
              ·
                try simp only [decide_eq_true_eq, decide_eq_false_iff_not, beq_iff_eq, beq_eq_false_iff_ne, bne_iff_ne, bne_eq_false_iff_eq, Bool.not_eq_true', Bool.not_eq_false', ne_eq, Int.not_lt, Int.not_le] at hc63
                obtain ⟨m, hm⟩ : ∃ m : Nat, (m : Int) = ((now ++ [n]).length : Int) - 1 := ⟨((now ++ [n]).length - 1), by omega⟩
                refine WC.region ?_
                refine WL.p rfl rfl rfl (P.loadO 3 Tryz.isAgg22 rfl rfl rfl) ?_
                refine WL.p rfl rfl rfl (P.lenR Tryz.underlying22 rfl) ?_
                refine WL.p rfl rfl rfl (P.ari64 rfl rfl rfl (by omega)) ?_
                refine WL.p rfl rfl rfl (P.assign rfl) ?_
                refine WL.nil_ ?_
                refine End.seq ?_
                refine WC.region ?_
                refine WL.p rfl rfl rfl (P.move rfl) ?_
                refine WL.p rfl rfl rfl (P.move rfl) ?_
                refine WL.is 68 rfl (congrArg (Value.int .i64) (show _ = ((m : Nat) : Int) from by omega)) ?_
                refine WL.callG (α := Nat × Nat) (S := fun _ => True) (v := fun _ => .tuple #[]) (H' := fun q2 => [.blk b11 22 #[.slice (some ⟨q2.1, 0, none⟩) (gone ++ (now ++ [n]).take m).length q2.2], .blk b10 22 #[.slice (some ⟨q, 0 + m, none⟩) ((now ++ [n]).drop m).length (cap - m)], .row 3 1 (.slice (some ⟨q2.1, 0, none⟩) (gone ++ (now ++ [n]).take m).length q2.2) (gone ++ (now ++ [n]).take m).length (ints (gone ++ (now ++ [n]).take m)), .row 3 1 (.slice (some ⟨q, 0, none⟩) (now ++ [n]).length cap) (now ++ [n]).length (ints (now ++ [n])), _, _, _, _]) (ent_of Tryz.func186 rfl rfl) rfl rfl rfl rfl rfl rfl (fun w hs => drop2_any m b11 b10 q 0 cap gv gone (now ++ [n]) _ _ w _ (hs.sel [2, 3, 4, 0, 1, 5, 6, 7] rfl) (fun X Y R w hs => sl_item hs (j := 3) rfl (by omega)) (by omega) (by omega) (by omega) (by omega)) (fun q2 _ => ?_)
                refine WL.nil_ ?_
                refine End.blkN ?_
                refine End.seq ?_
                refine WC.region ?_
                refine WL.p rfl rfl rfl (P.ari64 rfl rfl rfl (by omega)) ?_
                refine WL.p rfl rfl rfl (P.move rfl) ?_
                refine WL.nil_ ?_
                refine End.againD (k + 1, n, (now ++ [n]).drop m, some ⟨q, 0 + m, none⟩, cap - m, gone ++ (now ++ [n]).take m, .slice (some ⟨q2.1, 0, none⟩) (gone ++ (now ++ [n]).take m).length q2.2, .row 3 1 (.slice (some ⟨q, 0, none⟩) (now ++ [n]).length cap) (now ++ [n]).length (ints (now ++ [n]))) ?_ ?_ rfl (Env.sub_cons rfl (Env.sub_nil)) rfl [0, 1, 2, 3, 6, 7] rfl rfl
                · exact ⟨by omega, by rw [roll_snoc hroll hn]; exact step_drop (s := (last, now, gone)) (by omega) (by omega) (by simp only; omega) (by rw [if_pos (show e.empty = true from hc63)]; exact hm), by rw [List.length_drop]; omega, .inr ⟨q, 0 + m, rfl⟩, fun B X Y R T w' hs => (sl_item hs (j := 3) rfl (by omega)).drop m, by have hlg : (gone ++ (now ++ [n]).take m).length = gone.length + min m (now ++ [n]).length := (by rw [List.length_append, List.length_take]); rw [List.length_drop, hlg]; omega⟩
                · show ls.length - (k + 1) < ls.length - k; omega
              ·
                try simp only [decide_eq_true_eq, decide_eq_false_iff_not, beq_iff_eq, beq_eq_false_iff_ne, bne_iff_ne, bne_eq_false_iff_eq, Bool.not_eq_true', Bool.not_eq_false', ne_eq, Int.not_lt, Int.not_le] at hc63
                obtain ⟨m, hm⟩ : ∃ m : Nat, (m : Int) = ((now ++ [n]).length : Int) - e.limit := ⟨(((now ++ [n]).length : Int) - e.limit).toNat, by omega⟩
                refine WC.skip ?_
                refine End.seq ?_
                refine WC.region ?_
                refine WL.p rfl rfl rfl (P.move rfl) ?_
                refine WL.p rfl rfl rfl (P.move rfl) ?_
                refine WL.is 68 rfl (congrArg (Value.int .i64) (show _ = ((m : Nat) : Int) from by omega)) ?_
                refine WL.callG (α := Nat × Nat) (S := fun _ => True) (v := fun _ => .tuple #[]) (H' := fun q2 => [.blk b11 22 #[.slice (some ⟨q2.1, 0, none⟩) (gone ++ (now ++ [n]).take m).length q2.2], .blk b10 22 #[.slice (some ⟨q, 0 + m, none⟩) ((now ++ [n]).drop m).length (cap - m)], .row 3 1 (.slice (some ⟨q2.1, 0, none⟩) (gone ++ (now ++ [n]).take m).length q2.2) (gone ++ (now ++ [n]).take m).length (ints (gone ++ (now ++ [n]).take m)), .row 3 1 (.slice (some ⟨q, 0, none⟩) (now ++ [n]).length cap) (now ++ [n]).length (ints (now ++ [n])), _, _, _, _]) (ent_of Tryz.func186 rfl rfl) rfl rfl rfl rfl rfl rfl (fun w hs => drop2_any m b11 b10 q 0 cap gv gone (now ++ [n]) _ _ w _ (hs.sel [2, 3, 4, 0, 1, 5, 6, 7] rfl) (fun X Y R w hs => sl_item hs (j := 3) rfl (by omega)) (by omega) (by omega) (by omega) (by omega)) (fun q2 _ => ?_)
                refine WL.nil_ ?_
                refine End.blkN ?_
                refine End.seq ?_
                refine WC.region ?_
                refine WL.p rfl rfl rfl (P.ari64 rfl rfl rfl (by omega)) ?_
                refine WL.p rfl rfl rfl (P.move rfl) ?_
                refine WL.nil_ ?_
                refine End.againD (k + 1, n, (now ++ [n]).drop m, some ⟨q, 0 + m, none⟩, cap - m, gone ++ (now ++ [n]).take m, .slice (some ⟨q2.1, 0, none⟩) (gone ++ (now ++ [n]).take m).length q2.2, .row 3 1 (.slice (some ⟨q, 0, none⟩) (now ++ [n]).length cap) (now ++ [n]).length (ints (now ++ [n]))) ?_ ?_ rfl (Env.sub_cons rfl (Env.sub_nil)) rfl [0, 1, 2, 3, 6, 7] rfl rfl
                · exact ⟨by omega, by rw [roll_snoc hroll hn]; exact step_drop (s := (last, now, gone)) (by omega) (by omega) (by simp only; omega) (by rw [if_neg (by rw [show e.empty = false from hc63]; simp)]; exact hm), by rw [List.length_drop]; omega, .inr ⟨q, 0 + m, rfl⟩, fun B X Y R T w' hs => (sl_item hs (j := 3) rfl (by omega)).drop m, by have hlg : (gone ++ (now ++ [n]).take m).length = gone.length + min m (now ++ [n]).length := (by rw [List.length_append, List.length_take]); rw [List.length_drop, hlg]; omega⟩
                · show ls.length - (k + 1) < ls.length - k; omega
            ·
              try simp only [decide_eq_true_eq, decide_eq_false_iff_not, beq_iff_eq, beq_eq_false_iff_ne, bne_iff_ne, bne_eq_false_iff_eq, Bool.not_eq_true', Bool.not_eq_false', ne_eq, Int.not_lt, Int.not_le] at hc61
              refine WC.skip ?_
              refine End.blkN ?_
              refine End.seq ?_
              refine WC.region ?_
              refine WL.p rfl rfl rfl (P.ari64 rfl rfl rfl (by omega)) ?_
              refine WL.p rfl rfl rfl (P.move rfl) ?_
              refine WL.nil_ ?_
              refine End.againD (k + 1, n, now ++ [n], some ⟨q, 0, none⟩, cap, gone, gv, .row 3 1 (.slice (some ⟨q, 0, none⟩) (now ++ [n]).length cap) (now ++ [n]).length (ints (now ++ [n]))) ?_ ?_ rfl (Env.sub_cons rfl (Env.sub_nil)) rfl [2, 3, 4, 0, 6, 7] rfl rfl
              · exact ⟨by omega, by rw [roll_snoc hroll hn]; exact step_none (s := (last, now, gone)) (by omega) (by omega) (by simp only; omega), hcap, .inr ⟨q, 0, rfl⟩, fun B X Y R T w' hs => sl_item hs (j := 3) rfl (by omega), by omega⟩
              · show ls.length - (k + 1) < ls.length - k; omega
    ·
      try simp only [decide_eq_true_eq, decide_eq_false_iff_not, beq_iff_eq, beq_eq_false_iff_ne, bne_iff_ne, bne_eq_false_iff_eq, Bool.not_eq_true', Bool.not_eq_false', ne_eq, Int.not_lt, Int.not_le] at hc27
      refine WC.exit ?_
      refine End.thenX ?_
      refine End.thenX ?_
      refine End.blkX ?_
      refine End.seq ?_
      refine WC.seq ?_
      apply WC.draws (al := []) (vs := [fun _ => .agg (({ e with last := last } : E).cells (.slice A1 e.alt.length c1) (.slice A2 e.grants.length c2)), _, _, fun _ => undef, _, _, _]) (Hs := fun v HH b s => (bwh (b 3) (cellsOf (v 0 s)) HH 4)) (by kernel_rfl) (by kernel_rfl) (by kernel_rfl)
      case steps =>
        refine Stps.cons (Stp.p (fun b s hd => ⟨_, ⟨rfl, P.loadW 5 (cs := ({ e with last := last } : E).cells (.slice A1 e.alt.length c1) (.slice A2 e.grants.length c2)) Tryz.isAgg34 Tryz.sizeOf34 rfl rfl rfl⟩, rfl, rfl⟩)) ?_
        refine Stps.cons (Stp.p (fun b s hd => ⟨_, ⟨rfl, P.loadO 1 Tryz.isAgg22 rfl rfl rfl⟩, rfl, rfl⟩)) ?_
        refine Stps.cons (Stp.p (fun b s hd => ⟨_, ⟨rfl, P.loadO 0 Tryz.isAgg22 rfl rfl rfl⟩, rfl, rfl⟩)) ?_
        refine Stps.cons (Stp.storeW 4 Tryz.sizeOf34 (fun b s hd => ⟨true, _, _, _, _, _, rfl, rfl, rfl, rfl, rfl, rfl, rfl, rfl, rfl, rfl⟩)) ?_
        refine Stps.cons (Stp.p (fun b s hd => ⟨_, ⟨rfl, P.assign rfl⟩, rfl, rfl⟩)) ?_
        refine Stps.cons (Stp.p (fun b s hd => ⟨_, ⟨rfl, P.assign rfl⟩, rfl, rfl⟩)) ?_
        refine Stps.cons (Stp.p (fun b s hd => ⟨_, ⟨rfl, P.assign rfl⟩, rfl, rfl⟩)) ?_
        exact Stps.nil
      case h0 => exact fun s => rfl
      case agree => exact AgrAll.nil
      intro s21
      refine End.shape (ρ' := [(0, _), (1, _), (2, _), (3, _), (6, _), (7, _), (8, _), (9, _), (10, _), (11, _), (12, _), (16, _), (17, _), (18, _), (19, _), (21, _), (22, _), (23, _), (24, _), (25, _), (26, _), (27, _), (71, _), (72, _), (73, _)]) (H' := [_, _, _, _, .blk _ _ #[_, _, _, _, _, _, _, _, _, _, _, _, _, _, _, _, _, _, _, _, _, _, _, _, _, _, _, _, _, _, _, _, _], _]) (Env.sub_cons rfl (Env.sub_cons rfl (Env.sub_cons rfl (Env.sub_cons rfl (Env.sub_cons rfl (Env.sub_cons rfl (Env.sub_cons rfl (Env.sub_cons rfl (Env.sub_cons rfl (Env.sub_cons rfl (Env.sub_cons rfl (Env.sub_cons rfl (Env.sub_cons rfl (Env.sub_cons rfl (Env.sub_cons rfl (Env.sub_cons rfl (Env.sub_cons rfl (Env.sub_cons rfl (Env.sub_cons rfl (Env.sub_cons rfl (Env.sub_cons rfl (Env.sub_cons rfl (Env.sub_cons rfl (Env.sub_cons rfl (Env.sub_cons rfl (Env.sub_nil)))))))))))))))))))))))))) rfl ?_
      refine End.seq ?_
      refine WC.ret ?_
      refine End.retCTTT 4 rfl Tryz.isAgg34 Tryz.sizeOf34 rfl rfl rfl rfl rfl rfl ?_
      have ek : k = ls.length := by omega
      rw [ek, List.take_length] at hroll
      have hP : foldP e xs ls = .ok (last, now, gone) := by rw [foldP, if_pos hc19, hroll]
      rw [hP]
      exact fun w' hs' => ⟨(A, c, gv, it), ⟨fun B w2 h2 => hnow _ _ _ _ _ w2 h2.nil.nil, hnc, by omega, by omega⟩, rfl, hs'.sel [2, 3] rfl⟩

end Go.Proofs.YtlkkiimmangplaaGreatDoor
