/- Limit, both; equal lists of numbers; short groups. -/
import Derived.Test.YtlkkiimmangplaaGreatDoorP19
namespace Go.Proofs.YtlkkiimmangplaaGreatDoor
open Go.RowKit
set_option linter.unusedVariables false
set_option linter.unusedSimpArgs false

/-- What goes when the limit becomes another one. -/
def limP (v : Bool) (xs : List Int) (limit : Int) : Except Int (List Int) := if v = false then .error 1 else if limit < 1 ∨ 63 < limit then .error 2 else .ok (xs.take (mx0 ((xs.length : Int) - limit)))
def LimR (w : World) (r : Except Int (List Int)) : Ending → World → Prop := match r with
  | .error c => RetV w (.tuple #[vnil, .int .i64 c])
  | .ok gone => Ret w (fun _ : Option Addr × Nat => True) (fun p => .tuple #[.slice p.1 gone.length p.2, .int .i64 0]) (fun p => [.row 3 1 (.slice p.1 gone.length p.2) gone.length (ints gone)])
theorem LimR.err {w : World} {r : Except Int (List Int)} {c : Int} {H : List It} {w' : World} {v : Value} (h : r = .error c) (hv : v = .tuple #[vnil, .int .i64 c]) (hs : St w H w') : LimR w r (.returned v) w' := by
  subst h
  exact RetV.of hv hs
theorem LimR.ok {w : World} {r : Except Int (List Int)} {gone : List Int} {w' : World} {v : Value} (p : Option Addr × Nat) (h : r = .ok gone) (hv : v = .tuple #[.slice p.1 gone.length p.2, .int .i64 0]) (hs : St w [.row 3 1 (.slice p.1 gone.length p.2) gone.length (ints gone)] w') : LimR w r (.returned v) w' := by
  subst h
  exact ⟨p, trivial, by rw [hv], hs⟩

set_option maxRecDepth 100000 in
theorem refLimit_any (e : E) (va vg : Value) (A0 : Option Addr) (c0 : Nat) (xs : List Int) (limit : Int) (w : World) (ha : EntAt w e va vg) (hr : Sl encI 1 w A0 xs) (hsz : e.name.size < 4294967281) (hx : xs.length ≤ 100) (hc0 : xs.length ≤ c0) (hz : A0 = none → c0 = 0) :
    Calls Tryz.prog 43 #[.agg (e.cells va vg), .slice A0 xs.length c0, .int .i64 limit] w (LimR w (limP (rgenV e xs) xs limit)) := by
  have ha0 := ha
  obtain ⟨⟨A1, c1, rfl, hc1, hr1⟩, ⟨A2, c2, rfl, hc2, hr2⟩⟩ := ha
  refine enter Tryz.func43 rfl Tryz.ntmps43 rfl ?_
  refine WC.seq ?_
  refine WC.region ?_
  refine WL.box rfl rfl rfl (fun b3 => ?_)
  refine WL.p rfl rfl rfl (P.assign rfl) ?_
  refine WL.p rfl rfl rfl (P.assign rfl) ?_
  refine WL.nil_ ?_
  refine End.seq ?_
  refine WC.seq ?_
  refine WC.seq ?_
  refine WC.region ?_
  refine WL.p rfl rfl rfl (P.loadW 0 Tryz.isAgg34 Tryz.sizeOf34 rfl rfl rfl) ?_
  refine WL.p rfl rfl rfl (P.move rfl) ?_
  refine WL.callv (ent_of Tryz.func44 rfl rfl) rfl rfl rfl (fun w hs => refGenValid_any e _ _ A0 c0 xs w (ha0.st hs) (hr.st hs) hsz) ?_
  refine WL.p rfl rfl rfl (P.not_ rfl) ?_
  refine WL.nil_ ?_
  refine End.seq ?_
  refine WC.cond rfl (fun hc11 => ?_) (fun hc11 => ?_)
  ·
    try simp only [decide_eq_true_eq, decide_eq_false_iff_not, beq_iff_eq, beq_eq_false_iff_ne, bne_iff_ne, bne_eq_false_iff_eq, Bool.not_eq_true', Bool.not_eq_false', ne_eq, Int.not_lt, Int.not_le] at hc11
    refine WC.seq ?_
    refine WC.region ?_
    refine WL.p rfl rfl rfl (P.assign rfl) ?_
    refine WL.p rfl rfl rfl (P.assign rfl) ?_
    refine WL.nil_ ?_
    refine End.seq ?_
    refine WC.ret ?_
    refine End.thenR ?_
    refine End.ret2 rfl rfl rfl ?_
    exact fun w' hs' => LimR.err (by rw [limP, if_pos hc11]) rfl hs'
  ·
    try simp only [decide_eq_true_eq, decide_eq_false_iff_not, beq_iff_eq, beq_eq_false_iff_ne, bne_iff_ne, bne_eq_false_iff_eq, Bool.not_eq_true', Bool.not_eq_false', ne_eq, Int.not_lt, Int.not_le] at hc11
    refine WC.skip ?_
    refine End.seq ?_
    refine WC.seq ?_
    refine WC.seq ?_
    refine WC.region ?_
    refine WL.p rfl rfl rfl (P.move rfl) ?_
    refine WL.p rfl rfl rfl (P.cmp rfl rfl rfl) ?_
    refine WL.p rfl rfl rfl (P.move rfl) ?_
    refine WL.split 14 rfl (fun hs14 => ?_) (fun hs14 => ?_)
    ·
      try simp only [decide_eq_true_eq, decide_eq_false_iff_not, beq_iff_eq, beq_eq_false_iff_ne, bne_iff_ne, bne_eq_false_iff_eq, Bool.not_eq_true', Bool.not_eq_false', ne_eq, Int.not_lt, Int.not_le] at hs14
      refine WL.off rfl rfl ?_
      refine WL.off rfl rfl ?_
      refine WL.p rfl rfl rfl (P.pickT rfl rfl) ?_
      refine WL.nil_ ?_
      refine End.seq ?_
      refine WC.condT rfl ?_
      refine WC.seq ?_
      refine WC.region ?_
      refine WL.p rfl rfl rfl (P.assign rfl) ?_
      refine WL.p rfl rfl rfl (P.assign rfl) ?_
      refine WL.nil_ ?_
      refine End.seq ?_
      refine WC.ret ?_
      refine End.thenR ?_
      refine End.ret2 rfl rfl rfl ?_
      exact fun w' hs' => LimR.err (by rw [limP, if_neg (by rw [hc11]; simp), if_pos (by omega)]) rfl hs'
    ·
      try simp only [decide_eq_true_eq, decide_eq_false_iff_not, beq_iff_eq, beq_eq_false_iff_ne, bne_iff_ne, bne_eq_false_iff_eq, Bool.not_eq_true', Bool.not_eq_false', ne_eq, Int.not_lt, Int.not_le] at hs14
      refine WL.p rfl rfl rfl (P.move rfl) ?_
      refine WL.p rfl rfl rfl (P.cmp rfl rfl rfl) ?_
      refine WL.p rfl rfl rfl (P.pickF rfl rfl) ?_
      refine WL.nil_ ?_
      refine End.seq ?_
      refine WC.cond rfl (fun hc17 => ?_) (fun hc17 => ?_)
      ·
        try simp only [decide_eq_true_eq, decide_eq_false_iff_not, beq_iff_eq, beq_eq_false_iff_ne, bne_iff_ne, bne_eq_false_iff_eq, Bool.not_eq_true', Bool.not_eq_false', ne_eq, Int.not_lt, Int.not_le] at hc17
        refine WC.seq ?_
        refine WC.region ?_
        refine WL.p rfl rfl rfl (P.assign rfl) ?_
        refine WL.p rfl rfl rfl (P.assign rfl) ?_
        refine WL.nil_ ?_
        refine End.seq ?_
        refine WC.ret ?_
        refine End.thenR ?_
        refine End.ret2 rfl rfl rfl ?_
        exact fun w' hs' => LimR.err (by rw [limP, if_neg (by rw [hc11]; simp), if_pos (by omega)]) rfl hs'
      ·
        try simp only [decide_eq_true_eq, decide_eq_false_iff_not, beq_iff_eq, beq_eq_false_iff_ne, bne_iff_ne, bne_eq_false_iff_eq, Bool.not_eq_true', Bool.not_eq_false', ne_eq, Int.not_lt, Int.not_le] at hc17
        refine WC.skip ?_
        refine End.seq ?_
        refine WC.seq ?_
        refine WC.region ?_
        have hmx : (if (xs.length : Int) - limit > 0 then (xs.length : Int) - limit else 0) ≤ (xs.length : Int) ∧ 0 ≤ (if (xs.length : Int) - limit > 0 then (xs.length : Int) - limit else 0) := by (repeat' split) <;> omega
        have hmn : (mx0 ((xs.length : Int) - limit)) ≤ xs.length := by unfold mx0; omega
        have hlm : (xs.take (mx0 ((xs.length : Int) - limit))).length = (mx0 ((xs.length : Int) - limit)) := by rw [List.length_take]; omega
        refine WL.buildSlice rfl rfl rfl (fun w => run_buildSlice0 Tryz.underlying22 Tryz.sizeOf3 w) (fun b18 => ?_)
        refine WL.asRow 0 rfl rfl (by decide) ?_
        refine WL.p rfl rfl rfl (P.move rfl) ?_
        refine WL.p rfl rfl rfl (P.move rfl) ?_
        refine WL.p rfl rfl rfl (P.lenR Tryz.underlying22 rfl) ?_
        refine WL.p rfl rfl rfl (P.move rfl) ?_
        refine WL.p rfl rfl rfl (P.ari64 rfl rfl rfl (by omega)) ?_
        refine WL.p rfl rfl rfl (P.max2 rfl rfl) ?_
        refine WL.p rfl rfl rfl (P.cutH Tryz.underlying22 Tryz.sizeOf3 rfl rfl (by omega) (by omega)) ?_
        refine WL.extend 0 (l := 0) (m := (mx0 ((xs.length : Int) - limit))) (xs := []) (news := ints (xs.take (mx0 ((xs.length : Int) - limit)))) (all := ints (xs.take (mx0 ((xs.length : Int) - limit)))) (lt := (xs.take (mx0 ((xs.length : Int) - limit))).length) el22 rfl rfl rfl rfl rfl (by simp [ints]; omega) (fun w hs => (hr.st hs).src hz hmn) (ints_one _) rfl (by omega) (by simp only [maxLen]; omega) (by omega) (fun q cap hq => ?_)
        refine WL.p rfl rfl rfl (P.assign rfl) ?_
        refine WL.p rfl rfl rfl (P.assign rfl) ?_
        refine WL.nil_ ?_
        refine End.seq ?_
        refine WC.ret ?_
        refine End.ret2 rfl rfl rfl ?_
        exact fun w' hs' => LimR.ok (some ⟨q, 0, none⟩, cap) (by rw [limP, if_neg (by rw [hc11]; simp), if_neg (by omega)]) rfl (hs'.sel [0] rfl)

set_option maxRecDepth 100000 in
theorem limit_any (e : E) (va vg : Value) (A0 : Option Addr) (c0 : Nat) (xs : List Int) (limit : Int) (w : World) (hg : Good w) (ha : EntAt w e va vg) (hr : Sl encI 1 w A0 xs) (hx : xs.length ≤ 100) (hc0 : xs.length ≤ c0) :
    Calls Tryz.prog 42 #[.agg (e.cells va vg), .slice A0 xs.length c0, .int .i64 limit] w (LimR w (limP (genV e xs) xs limit)) := by
  have ha0 := ha
  obtain ⟨⟨A1, c1, rfl, hc1, hr1⟩, ⟨A2, c2, rfl, hc2, hr2⟩⟩ := ha
  refine enter Tryz.func42 rfl Tryz.ntmps42 rfl ?_
  refine WC.seq ?_
  refine WC.region ?_
  refine WL.box rfl rfl rfl (fun b3 => ?_)
  refine WL.p rfl rfl rfl (P.assign rfl) ?_
  refine WL.p rfl rfl rfl (P.assign rfl) ?_
  refine WL.nil_ ?_
  refine End.seq ?_
  refine WC.seq ?_
  refine WC.seq ?_
  refine WC.region ?_
  refine WL.p rfl rfl rfl (P.loadW 0 Tryz.isAgg34 Tryz.sizeOf34 rfl rfl rfl) ?_
  refine WL.p rfl rfl rfl (P.move rfl) ?_
  refine WL.callv (ent_of Tryz.func35 rfl rfl) rfl rfl rfl (fun w hs => genValid_any e _ _ A0 c0 xs w (hg.st hs) (ha0.st hs) (hr.st hs)) ?_
  refine WL.p rfl rfl rfl (P.not_ rfl) ?_
  refine WL.nil_ ?_
  refine End.seq ?_
  refine WC.cond rfl (fun hc11 => ?_) (fun hc11 => ?_)
  ·
    try simp only [decide_eq_true_eq, decide_eq_false_iff_not, beq_iff_eq, beq_eq_false_iff_ne, bne_iff_ne, bne_eq_false_iff_eq, Bool.not_eq_true', Bool.not_eq_false', ne_eq, Int.not_lt, Int.not_le] at hc11
    refine WC.seq ?_
    refine WC.region ?_
    refine WL.p rfl rfl rfl (P.assign rfl) ?_
    refine WL.p rfl rfl rfl (P.assign rfl) ?_
    refine WL.nil_ ?_
    refine End.seq ?_
    refine WC.ret ?_
    refine End.thenR ?_
    refine End.ret2 rfl rfl rfl ?_
    exact fun w' hs' => LimR.err (by rw [limP, if_pos hc11]) rfl hs'
  ·
    try simp only [decide_eq_true_eq, decide_eq_false_iff_not, beq_iff_eq, beq_eq_false_iff_ne, bne_iff_ne, bne_eq_false_iff_eq, Bool.not_eq_true', Bool.not_eq_false', ne_eq, Int.not_lt, Int.not_le] at hc11
    refine WC.skip ?_
    refine End.seq ?_
    refine WC.seq ?_
    refine WC.seq ?_
    refine WC.region ?_
    refine WL.p rfl rfl rfl (P.move rfl) ?_
    refine WL.p rfl rfl rfl (P.cmp rfl rfl rfl) ?_
    refine WL.p rfl rfl rfl (P.move rfl) ?_
    refine WL.split 14 rfl (fun hs14 => ?_) (fun hs14 => ?_)
    ·
      try simp only [decide_eq_true_eq, decide_eq_false_iff_not, beq_iff_eq, beq_eq_false_iff_ne, bne_iff_ne, bne_eq_false_iff_eq, Bool.not_eq_true', Bool.not_eq_false', ne_eq, Int.not_lt, Int.not_le] at hs14
      refine WL.off rfl rfl ?_
      refine WL.off rfl rfl ?_
      refine WL.p rfl rfl rfl (P.pickT rfl rfl) ?_
      refine WL.nil_ ?_
      refine End.seq ?_
      refine WC.condT rfl ?_
      refine WC.seq ?_
      refine WC.region ?_
      refine WL.p rfl rfl rfl (P.assign rfl) ?_
      refine WL.p rfl rfl rfl (P.assign rfl) ?_
      refine WL.nil_ ?_
      refine End.seq ?_
      refine WC.ret ?_
      refine End.thenR ?_
      refine End.ret2 rfl rfl rfl ?_
      exact fun w' hs' => LimR.err (by rw [limP, if_neg (by rw [hc11]; simp), if_pos (by omega)]) rfl hs'
    ·
      try simp only [decide_eq_true_eq, decide_eq_false_iff_not, beq_iff_eq, beq_eq_false_iff_ne, bne_iff_ne, bne_eq_false_iff_eq, Bool.not_eq_true', Bool.not_eq_false', ne_eq, Int.not_lt, Int.not_le] at hs14
      refine WL.p rfl rfl rfl (P.move rfl) ?_
      refine WL.p rfl rfl rfl (P.cmp rfl rfl rfl) ?_
      refine WL.p rfl rfl rfl (P.pickF rfl rfl) ?_
      refine WL.nil_ ?_
      refine End.seq ?_
      refine WC.cond rfl (fun hc17 => ?_) (fun hc17 => ?_)
      ·
        try simp only [decide_eq_true_eq, decide_eq_false_iff_not, beq_iff_eq, beq_eq_false_iff_ne, bne_iff_ne, bne_eq_false_iff_eq, Bool.not_eq_true', Bool.not_eq_false', ne_eq, Int.not_lt, Int.not_le] at hc17
        refine WC.seq ?_
        refine WC.region ?_
        refine WL.p rfl rfl rfl (P.assign rfl) ?_
        refine WL.p rfl rfl rfl (P.assign rfl) ?_
        refine WL.nil_ ?_
        refine End.seq ?_
        refine WC.ret ?_
        refine End.thenR ?_
        refine End.ret2 rfl rfl rfl ?_
        exact fun w' hs' => LimR.err (by rw [limP, if_neg (by rw [hc11]; simp), if_pos (by omega)]) rfl hs'
      ·
        try simp only [decide_eq_true_eq, decide_eq_false_iff_not, beq_iff_eq, beq_eq_false_iff_ne, bne_iff_ne, bne_eq_false_iff_eq, Bool.not_eq_true', Bool.not_eq_false', ne_eq, Int.not_lt, Int.not_le] at hc17
        refine WC.skip ?_
        refine End.seq ?_
        refine WC.seq ?_
        refine WC.region ?_
        have hmx : (if (xs.length : Int) - limit > 0 then (xs.length : Int) - limit else 0) ≤ (xs.length : Int) ∧ 0 ≤ (if (xs.length : Int) - limit > 0 then (xs.length : Int) - limit else 0) := by (repeat' split) <;> omega
        have hmn : (mx0 ((xs.length : Int) - limit)) ≤ xs.length := by unfold mx0; omega
        have hlm : (xs.take (mx0 ((xs.length : Int) - limit))).length = (mx0 ((xs.length : Int) - limit)) := by rw [List.length_take]; omega
        refine WL.p rfl rfl rfl (P.move rfl) ?_
        refine WL.p rfl rfl rfl (P.move rfl) ?_
        refine WL.p rfl rfl rfl (P.lenR Tryz.underlying22 rfl) ?_
        refine WL.p rfl rfl rfl (P.move rfl) ?_
        refine WL.p rfl rfl rfl (P.ari64 rfl rfl rfl (by omega)) ?_
        refine WL.p rfl rfl rfl (P.max2 rfl rfl) ?_
        refine WL.p rfl rfl rfl (P.cutH Tryz.underlying22 Tryz.sizeOf3 rfl rfl (by omega) (by omega)) ?_
        refine WL.is 24 rfl (congrArg (fun q => Value.slice A0 q c0) hlm.symm) ?_
        refine WL.callx (ent_of Tryz.func113 rfl rfl) rfl rfl rfl (fun w hs => clone_any A0 c0 (xs.take (mx0 ((xs.length : Int) - limit))) w ((hr.st hs).take _) (by omega)) (fun p hp => ?_)
        refine WL.p rfl rfl rfl (P.assign rfl) ?_
        refine WL.p rfl rfl rfl (P.assign rfl) ?_
        refine WL.nil_ ?_
        refine End.seq ?_
        refine WC.ret ?_
        refine End.ret2 rfl rfl rfl ?_
        exact fun w' hs' => LimR.ok p (by rw [limP, if_neg (by rw [hc11]; simp), if_neg (by omega)]) rfl (hs'.sel [0] rfl)

theorem list_ne {xs ys : List Int} {k : Nat} {x y : Int} (hx : xs[k]? = some x) (hy : ys[k]? = some y) (h : ¬ x = y) : decide (xs = ys) = false := decide_eq_false fun e => h (by rw [e, hy] at hx; exact (Option.some.inj hx).symm)

set_option maxRecDepth 100000 in
theorem refInts_any (A A' : Option Addr) (c c' : Nat) (xs ys : List Int) (w : World) (hr : Sl encI 1 w A xs) (hr' : Sl encI 1 w A' ys) :
    Calls Tryz.prog 33 #[.slice A xs.length c, .slice A' ys.length c'] w (RetV w (.bool (decide (xs = ys)))) := by
  have hl := hr.1
  refine enter Tryz.func33 rfl Tryz.ntmps33 rfl ?_
  refine WC.seq ?_
  refine WC.region ?_
  refine WL.p rfl rfl rfl (P.assign rfl) ?_
  refine WL.nil_ ?_
  refine End.seq ?_
  refine WC.seq ?_
  refine WC.seq ?_
  refine WC.region ?_
  refine WL.p rfl rfl rfl (P.move rfl) ?_
  refine WL.p rfl rfl rfl (P.lenR Tryz.underlying22 rfl) ?_
  refine WL.p rfl rfl rfl (P.move rfl) ?_
  refine WL.p rfl rfl rfl (P.lenR Tryz.underlying22 rfl) ?_
  refine WL.p rfl rfl rfl (P.cmp rfl rfl rfl) ?_
  refine WL.nil_ ?_
  refine End.seq ?_
  refine WC.cond rfl (fun hc10 => ?_) (fun hc10 => ?_)
  ·
    try simp only [decide_eq_true_eq, decide_eq_false_iff_not, beq_iff_eq, beq_eq_false_iff_ne, bne_iff_ne, bne_eq_false_iff_eq, Bool.not_eq_true', Bool.not_eq_false', ne_eq, Int.not_lt, Int.not_le] at hc10
    refine WC.seq ?_
    refine WC.region ?_
    refine WL.p rfl rfl rfl (P.assign rfl) ?_
    refine WL.nil_ ?_
    refine End.seq ?_
    refine WC.ret ?_
    refine End.thenR ?_
    refine End.ret1 rfl rfl ?_
    exact fun w' hs' => RetV.of (by rw [decide_eq_false (fun e => hc10 (by rw [e]))]) hs'
  ·
    try simp only [decide_eq_true_eq, decide_eq_false_iff_not, beq_iff_eq, beq_eq_false_iff_ne, bne_iff_ne, bne_eq_false_iff_eq, Bool.not_eq_true', Bool.not_eq_false', ne_eq, Int.not_lt, Int.not_le] at hc10
    refine WC.skip ?_
    refine End.seq ?_
    refine WC.seq ?_
    refine WC.seq ?_
    refine WC.region ?_
    refine WL.p rfl rfl rfl (P.assign rfl) ?_
    refine WL.nil_ ?_
    refine End.seq ?_
    refine WC.block ?_
    refine WC.loopD (σ := Nat) (fun k => [(5, .int .i64 (k : Nat))]) (fun k => []) (fun k => k ≤ xs.length ∧ xs.take k = ys.take k) (fun k => xs.length - k) 0 ⟨Nat.zero_le _, rfl⟩ (Env.sub_cons rfl (Env.sub_nil)) [] rfl rfl ?_
    rintro k ⟨hk, ht⟩
    refine WC.seq ?_
    refine WC.seq ?_
    refine WC.region ?_
    refine WL.p rfl rfl rfl (P.move rfl) ?_
    refine WL.p rfl rfl rfl (P.move rfl) ?_
    refine WL.p rfl rfl rfl (P.lenR Tryz.underlying22 rfl) ?_
    refine WL.p rfl rfl rfl (P.cmp rfl rfl rfl) ?_
    refine WL.nil_ ?_
    refine End.seq ?_
    refine WC.cond rfl (fun hc14 => ?_) (fun hc14 => ?_)
    ·
      try simp only [decide_eq_true_eq, decide_eq_false_iff_not, beq_iff_eq, beq_eq_false_iff_ne, bne_iff_ne, bne_eq_false_iff_eq, Bool.not_eq_true', Bool.not_eq_false', ne_eq, Int.not_lt, Int.not_le] at hc14
      obtain ⟨b, off, rfl, hcx⟩ := hr.at_ (by omega)
      obtain ⟨b', off', rfl, hcy⟩ := hr'.at_ (by omega)
      obtain ⟨x, hx⟩ := get_of_lt (xs := xs) (k := k) (by omega)
      obtain ⟨y, hy⟩ := get_of_lt (xs := ys) (k := k) (by omega)
      refine WC.skip ?_
      refine End.seq ?_
      refine WC.seq ?_
      refine WC.block ?_
      refine WC.seq ?_
      refine WC.quiet (by kernel_rfl) ?_
      refine WQ.p rfl rfl rfl (P.move rfl) ?_
      refine WQ.p rfl rfl rfl (P.move rfl) ?_
      refine WQ.p rfl rfl rfl (P.elemAddr Tryz.underlying22 Tryz.sizeOf3 rfl rfl (by omega) (by omega)) ?_
      refine WQ.p rfl rfl rfl (P.loadB Tryz.isAgg3 rfl (hcx k x hx 0 _ rfl)) ?_
      refine WQ.p rfl rfl rfl (P.move rfl) ?_
      refine WQ.p rfl rfl rfl (P.move rfl) ?_
      refine WQ.p rfl rfl rfl (P.elemAddr Tryz.underlying22 Tryz.sizeOf3 rfl rfl (by omega) (by omega)) ?_
      refine WQ.p rfl rfl rfl (P.loadB Tryz.isAgg3 rfl (hcy k y hy 0 _ rfl)) ?_
      refine WQ.p rfl rfl rfl (P.cmp rfl rfl rfl) ?_
      refine WQ.nil_ ?_
      refine End.seq ?_
      refine WC.cond rfl (fun hc25 => ?_) (fun hc25 => ?_)
      ·
        try simp only [decide_eq_true_eq, decide_eq_false_iff_not, beq_iff_eq, beq_eq_false_iff_ne, bne_iff_ne, bne_eq_false_iff_eq, Bool.not_eq_true', Bool.not_eq_false', ne_eq, Int.not_lt, Int.not_le] at hc25
        refine WC.seq ?_
        refine WC.region ?_
        refine WL.p rfl rfl rfl (P.assign rfl) ?_
        refine WL.nil_ ?_
        refine End.seq ?_
        refine WC.ret ?_
        refine End.blkR ?_
        refine End.thenR ?_
        refine End.thenR ?_
        refine End.blkR ?_
        refine End.thenR ?_
        refine End.ret1 rfl rfl ?_
        exact fun w' hs' => RetV.of (by rw [list_ne hx hy hc25]) hs'
      ·
        try simp only [decide_eq_true_eq, decide_eq_false_iff_not, beq_iff_eq, beq_eq_false_iff_ne, bne_iff_ne, bne_eq_false_iff_eq, Bool.not_eq_true', Bool.not_eq_false', ne_eq, Int.not_lt, Int.not_le] at hc25
        refine WC.skip ?_
        refine End.blkN ?_
        refine End.seq ?_
        refine WC.region ?_
        refine WL.p rfl rfl rfl (P.move rfl) ?_
        refine WL.p rfl rfl rfl (P.ari64 rfl rfl rfl (by omega)) ?_
        refine WL.p rfl rfl rfl (P.assign rfl) ?_
        refine WL.nil_ ?_
        refine End.againD (k + 1) ?_ ?_ rfl (Env.sub_cons rfl (Env.sub_nil)) rfl [] rfl rfl
        · exact ⟨by omega, by rw [take_snoc hx, take_snoc hy, ht, hc25]⟩
        · omega
    ·
      try simp only [decide_eq_true_eq, decide_eq_false_iff_not, beq_iff_eq, beq_eq_false_iff_ne, bne_iff_ne, bne_eq_false_iff_eq, Bool.not_eq_true', Bool.not_eq_false', ne_eq, Int.not_lt, Int.not_le] at hc14
      refine WC.exit ?_
      refine End.thenX ?_
      refine End.thenX ?_
      refine End.blkX ?_
      refine End.seq ?_
      refine WC.seq ?_
      refine WC.region ?_
      refine WL.p rfl rfl rfl (P.assign rfl) ?_
      refine WL.nil_ ?_
      refine End.seq ?_
      refine WC.ret ?_
      refine End.ret1 rfl rfl ?_
      have e : k = xs.length := by omega
      have e2 : k = ys.length := by omega
      rw [List.take_of_length_le (by omega), List.take_of_length_le (by omega)] at ht
      exact fun w' hs' => RetV.of (by rw [decide_eq_true ht]) hs'

def fewG (e : E) (n m : Nat) : Bool := decide ((e.name.size : Int) ≤ 60) && (decide ((e.grants.length : Int) ≤ 12) && (decide ((e.alt.length : Int) ≤ 8) && (decide ((n : Int) ≤ 80) && decide ((m : Int) ≤ 20))))
theorem fewG_of {e : E} {n m : Nat} (h : fewG e n m = true) : e.name.size ≤ 60 ∧ e.grants.length ≤ 12 ∧ e.alt.length ≤ 8 ∧ n ≤ 80 ∧ m ≤ 20 := by
  unfold fewG at h
  simp only [Bool.and_eq_true, decide_eq_true_eq] at h
  omega

set_option maxRecDepth 100000 in
theorem few_any (e : E) (va vg : Value) (A0 A9 : Option Addr) (n0 c0 n9 c9 : Nat) (w : World) (ha : EntAt w e va vg) :
    Calls Tryz.prog 29 #[.agg (e.cells va vg), .slice A0 n0 c0, .slice A9 n9 c9] w (RetV w (.bool (fewG e n0 n9))) := by
  have ha0 := ha
  obtain ⟨⟨A1, c1, rfl, hc1, hr1⟩, ⟨A2, c2, rfl, hc2, hr2⟩⟩ := ha
  refine enter Tryz.func29 rfl Tryz.ntmps29 rfl ?_
  refine WC.seq ?_
  refine WC.region ?_
  refine WL.box rfl rfl rfl (fun b3 => ?_)
  refine WL.p rfl rfl rfl (P.assign rfl) ?_
  refine WL.nil_ ?_
  refine End.seq ?_
  refine WC.seq ?_
  refine WC.region ?_
  refine WL.p rfl rfl rfl (P.fieldAddr fa_34_1 rfl) ?_
  refine WL.p rfl rfl rfl (P.loadO 0 Tryz.isAgg9 rfl rfl rfl) ?_
  refine WL.p rfl rfl rfl (P.lenS Tryz.underlying9 rfl) ?_
  refine WL.p rfl rfl rfl (P.cmp rfl rfl rfl) ?_
  refine WL.p rfl rfl rfl (P.move rfl) ?_
  refine WL.split 11 rfl (fun hs11 => ?_) (fun hs11 => ?_)
  ·
    refine WL.p rfl rfl rfl (P.fieldAddr fa_34_12 rfl) ?_
    refine WL.p rfl rfl rfl (P.loadO 0 Tryz.isAgg32 rfl rfl rfl) ?_
    refine WL.p rfl rfl rfl (P.lenR Tryz.underlying32 rfl) ?_
    refine WL.p rfl rfl rfl (P.cmp rfl rfl rfl) ?_
    refine WL.p rfl rfl rfl (P.pickT rfl rfl) ?_
    refine WL.p rfl rfl rfl (P.move rfl) ?_
    refine WL.split 17 rfl (fun hs17 => ?_) (fun hs17 => ?_)
    ·
      refine WL.p rfl rfl rfl (P.fieldAddr fa_34_3 rfl) ?_
      refine WL.p rfl rfl rfl (P.loadO 0 Tryz.isAgg22 rfl rfl rfl) ?_
      refine WL.p rfl rfl rfl (P.lenR Tryz.underlying22 rfl) ?_
      refine WL.p rfl rfl rfl (P.cmp rfl rfl rfl) ?_
      refine WL.p rfl rfl rfl (P.pickT rfl rfl) ?_
      refine WL.p rfl rfl rfl (P.move rfl) ?_
      refine WL.split 23 rfl (fun hs23 => ?_) (fun hs23 => ?_)
      ·
        refine WL.p rfl rfl rfl (P.move rfl) ?_
        refine WL.p rfl rfl rfl (P.lenR Tryz.underlying22 rfl) ?_
        refine WL.p rfl rfl rfl (P.cmp rfl rfl rfl) ?_
        refine WL.p rfl rfl rfl (P.pickT rfl rfl) ?_
        refine WL.p rfl rfl rfl (P.move rfl) ?_
        refine WL.split 28 rfl (fun hs28 => ?_) (fun hs28 => ?_)
        ·
          refine WL.p rfl rfl rfl (P.move rfl) ?_
          refine WL.p rfl rfl rfl (P.lenR Tryz.underlying22 rfl) ?_
          refine WL.p rfl rfl rfl (P.cmp rfl rfl rfl) ?_
          refine WL.p rfl rfl rfl (P.pickT rfl rfl) ?_
          refine WL.p rfl rfl rfl (P.assign rfl) ?_
          refine WL.nil_ ?_
          refine End.seq ?_
          refine WC.ret ?_
          refine End.ret1 rfl rfl ?_
          exact fun w' hs' => RetV.of (by rw [fewG, hs11, hs17, hs23, hs28]; rfl) hs'
        ·
          refine WL.off rfl rfl ?_
          refine WL.off rfl rfl ?_
          refine WL.off rfl rfl ?_
          refine WL.p rfl rfl rfl (P.pickF rfl rfl) ?_
          refine WL.p rfl rfl rfl (P.assign rfl) ?_
          refine WL.nil_ ?_
          refine End.seq ?_
          refine WC.ret ?_
          refine End.ret1 rfl rfl ?_
          exact fun w' hs' => RetV.of (by rw [fewG, hs11, hs17, hs23, hs28]; rfl) hs'
      ·
        refine WL.off rfl rfl ?_
        refine WL.off rfl rfl ?_
        refine WL.off rfl rfl ?_
        refine WL.p rfl rfl rfl (P.pickF rfl rfl) ?_
        refine WL.p rfl rfl rfl (P.move rfl) ?_
        refine WL.off rfl rfl ?_
        refine WL.off rfl rfl ?_
        refine WL.off rfl rfl ?_
        refine WL.p rfl rfl rfl (P.pickF rfl rfl) ?_
        refine WL.p rfl rfl rfl (P.assign rfl) ?_
        refine WL.nil_ ?_
        refine End.seq ?_
        refine WC.ret ?_
        refine End.ret1 rfl rfl ?_
        exact fun w' hs' => RetV.of (by rw [fewG, hs11, hs17, hs23]; rfl) hs'
    ·
      refine WL.off rfl rfl ?_
      refine WL.off rfl rfl ?_
      refine WL.off rfl rfl ?_
      refine WL.off rfl rfl ?_
      refine WL.p rfl rfl rfl (P.pickF rfl rfl) ?_
      refine WL.p rfl rfl rfl (P.move rfl) ?_
      refine WL.off rfl rfl ?_
      refine WL.off rfl rfl ?_
      refine WL.off rfl rfl ?_
      refine WL.p rfl rfl rfl (P.pickF rfl rfl) ?_
      refine WL.p rfl rfl rfl (P.move rfl) ?_
      refine WL.off rfl rfl ?_
      refine WL.off rfl rfl ?_
      refine WL.off rfl rfl ?_
      refine WL.p rfl rfl rfl (P.pickF rfl rfl) ?_
      refine WL.p rfl rfl rfl (P.assign rfl) ?_
      refine WL.nil_ ?_
      refine End.seq ?_
      refine WC.ret ?_
      refine End.ret1 rfl rfl ?_
      exact fun w' hs' => RetV.of (by rw [fewG, hs11, hs17]; rfl) hs'
  ·
    refine WL.off rfl rfl ?_
    refine WL.off rfl rfl ?_
    refine WL.off rfl rfl ?_
    refine WL.off rfl rfl ?_
    refine WL.p rfl rfl rfl (P.pickF rfl rfl) ?_
    refine WL.p rfl rfl rfl (P.move rfl) ?_
    refine WL.off rfl rfl ?_
    refine WL.off rfl rfl ?_
    refine WL.off rfl rfl ?_
    refine WL.off rfl rfl ?_
    refine WL.p rfl rfl rfl (P.pickF rfl rfl) ?_
    refine WL.p rfl rfl rfl (P.move rfl) ?_
    refine WL.off rfl rfl ?_
    refine WL.off rfl rfl ?_
    refine WL.off rfl rfl ?_
    refine WL.p rfl rfl rfl (P.pickF rfl rfl) ?_
    refine WL.p rfl rfl rfl (P.move rfl) ?_
    refine WL.off rfl rfl ?_
    refine WL.off rfl rfl ?_
    refine WL.off rfl rfl ?_
    refine WL.p rfl rfl rfl (P.pickF rfl rfl) ?_
    refine WL.p rfl rfl rfl (P.assign rfl) ?_
    refine WL.nil_ ?_
    refine End.seq ?_
    refine WC.ret ?_
    refine End.ret1 rfl rfl ?_
    exact fun w' hs' => RetV.of (by rw [fewG, hs11]; rfl) hs'

end Go.Proofs.YtlkkiimmangplaaGreatDoor
