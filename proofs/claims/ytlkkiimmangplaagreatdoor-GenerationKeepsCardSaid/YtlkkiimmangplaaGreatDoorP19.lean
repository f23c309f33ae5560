/- The reference's Roll. -/
import Derived.Test.YtlkkiimmangplaaGreatDoorP18
import Derived.Test.YtlkkiimmangplaaGreatDoorV5
namespace Go.Proofs.YtlkkiimmangplaaGreatDoor
open Go.RowKit
set_option linter.unusedVariables false
set_option linter.unusedSimpArgs false

def rE (r : Except Int (List Int)) (e : E) (n : Int) : E := match r with | .error _ => E.zero | .ok _ => { e with last := n }
def rV (r : Except Int (List Int)) (v : Value) : Value := match r with | .error _ => vnil | .ok _ => v
def rS (r : Except Int (List Int)) (p : Nat × Nat) : Value := match r with | .error _ => vnil | .ok gone => .slice (some ⟨p.1, 0, none⟩) gone.length p.2
def rI (r : Except Int (List Int)) (p : Nat × Nat) : It := match r with | .error _ => .nil | .ok gone => .row 3 1 (.slice (some ⟨p.1, 0, none⟩) gone.length p.2) gone.length (ints gone)
def rC (r : Except Int (List Int)) : Int := match r with | .error c => c | .ok _ => 0
theorem rV_one {r : Except Int (List Int)} {v : Value} (h : v.oneCell' = true) : (rV r v).oneCell' = true := by
  cases r with
  | error c => rfl
  | ok g => exact h
theorem refRollInU (e : E) (va vg : Value) (A0 : Option Addr) (c0 : Nat) (xs : List Int) (n : Int) (w : World) (ha : EntAt w e va vg) (hr : Sl encI 1 w A0 xs) (hsz : e.name.size < 4294967281) (hx : xs.length ≤ 100) (hc0 : xs.length ≤ c0) (hz : A0 = none → c0 = 0) :
    Calls Tryz.prog 41 #[.agg (e.cells va vg), .slice A0 xs.length c0, .int .i64 n] w (Ret w (fun _ : Nat × Nat => True) (fun p => .tuple #[.agg ((rE (rin e xs n) e n).cells (rV (rin e xs n) va) (rV (rin e xs n) vg)), rS (rin e xs n) p, .int .i64 (rC (rin e xs n))]) (fun p => [rI (rin e xs n) p])) := by
  refine (refRollIn_any e va vg A0 c0 xs n w ha hr hsz hx hc0 hz).mono fun en w' h => ?_
  cases hR : rin e xs n with
  | error c =>
    rw [hR] at h
    exact ⟨(0, 0), trivial, h.1, (h.2.nil)⟩
  | ok gone =>
    rw [hR] at h
    exact h
theorem rin_code {e : E} {xs : List Int} {n c : Int} (h : rin e xs n = .error c) : c = 1 ∨ c = 2 ∨ c = 9 := by
  unfold rin at h
  split at h
  · cases h; simp
  · split at h
    · cases h; simp
    · split at h
      · cases h; simp
      · cases h
theorem rin_ok {e : E} {xs : List Int} {n : Int} (h : rC (rin e xs n) = 0) : ∃ gone, rin e xs n = .ok gone := by
  cases hR : rin e xs n with
  | error c =>
    rw [hR] at h
    have h2 : c = 0 := h
    have := rin_code hR
    omega
  | ok gone => exact ⟨gone, rfl⟩
theorem rin_no {e : E} {xs : List Int} {n : Int} (h : ¬ rC (rin e xs n) = 0) : rin e xs n = .error (rC (rin e xs n)) := by
  cases hR : rin e xs n with
  | error c => rfl
  | ok gone => rw [hR] at h; exact absurd rfl h
theorem rin_len {e : E} {xs gone : List Int} {n : Int} (h : rin e xs n = .ok gone) : gone.length ≤ xs.length := by
  unfold rin at h
  split at h
  · cases h
  · split at h
    · cases h
    · split at h
      · cases h
      · cases h; exact List.length_take_le' ..
/-- Several new generations, as the reference does it. -/
def rstep (e : E) (s : Int × List Int) (n : Int) : Except Int (Int × List Int) := match rin { e with last := s.1 } s.2 n with
  | .error c => .error c
  | .ok gone => .ok (n, s.2.drop gone.length ++ [n])
theorem rstep_err {e : E} {last n c : Int} {now : List Int} (h : rin { e with last := last } now n = .error c) : rstep e (last, now) n = .error c := by
  unfold rstep
  rw [h]
def rroll (e : E) : Int × List Int → List Int → Except Int (Int × List Int)
  | s, [] => .ok s
  | s, n :: r => match rstep e s n with
    | .error c => .error c
    | .ok s' => rroll e s' r
theorem rroll_app (e : E) : ∀ (l r : List Int) (s : Int × List Int), rroll e s (l ++ r) = match rroll e s l with | .error c => .error c | .ok s' => rroll e s' r
  | [], r, s => rfl
  | n :: l, r, s => by
    simp only [List.cons_append, rroll]
    cases rstep e s n with
    | error c => rfl
    | ok s' => exact rroll_app e l r s'
theorem rroll_snoc {e : E} {l : List Int} {k : Nat} {n : Int} {s s' : Int × List Int} (h : rroll e s (l.take k) = .ok s') (hx : l[k]? = some n) : rroll e s (l.take (k + 1)) = rstep e s' n := by
  rw [take_snoc hx, rroll_app, h]
  simp only [rroll]
  cases rstep e s' n <;> rfl
theorem rroll_err {e : E} {l : List Int} {k : Nat} {c : Int} {s : Int × List Int} (h : rroll e s (l.take k) = .error c) : rroll e s l = .error c := by
  conv => lhs; rw [← List.take_append_drop k l]
  rw [rroll_app, h]
def rrollP (e : E) (xs ls : List Int) : Except Int (Int × List Int) := if rgenV e xs = false then .error 1 else rroll e (e.last, xs) ls
def RollR (w : World) (e : E) (va vg : Value) (r : Except Int (Int × List Int)) : Ending → World → Prop := match r with
  | .error c => RetV w (.tuple #[.agg (E.zero.cells vnil vnil), vnil, .int .i64 c])
  | .ok (last, now) => Ret w (fun _ : Nat × Nat => True) (fun p => .tuple #[.agg ({ e with last := last }.cells va vg), .slice (some ⟨p.1, 0, none⟩) now.length p.2, .int .i64 0]) (fun p => [.row 3 1 (.slice (some ⟨p.1, 0, none⟩) now.length p.2) now.length (ints now)])
theorem RollR.err {w : World} {e : E} {va vg : Value} {r : Except Int (Int × List Int)} {c : Int} {H : List It} {w' : World} {v : Value} (h : r = .error c) (hv : v = .tuple #[.agg (E.zero.cells vnil vnil), vnil, .int .i64 c]) (hs : St w H w') : RollR w e va vg r (.returned v) w' := by
  subst h
  exact RetV.of hv hs

set_option maxRecDepth 100000 in
theorem refRoll_any (e : E) (va vg : Value) (A0 A9 : Option Addr) (c0 c9 : Nat) (xs ls : List Int) (w : World) (ha : EntAt w e va vg) (hr : Sl encI 1 w A0 xs) (hr9 : Sl encI 1 w A9 ls) (hsz : e.name.size < 4294967281) (hx : xs.length ≤ 80) (hls : ls.length ≤ 20) (hc0 : xs.length ≤ c0) (hz : A0 = none → c0 = 0) :
    Calls Tryz.prog 31 #[.agg (e.cells va vg), .slice A0 xs.length c0, .slice A9 ls.length c9] w (RollR w e va vg (rrollP e xs ls)) := by
  have ha0 := ha
  obtain ⟨⟨A1, c1, rfl, hc1, hr1⟩, ⟨A2, c2, rfl, hc2, hr2⟩⟩ := ha
  refine enter Tryz.func31 rfl Tryz.ntmps31 rfl ?_
  refine WC.seq ?_
  refine WC.region ?_
  refine WL.box rfl rfl rfl (fun b3 => ?_)
  refine WL.alloc Tryz.zeroValue34 rfl rfl (fun b6 => ?_)
  refine WL.p rfl rfl rfl (P.assign rfl) ?_
  refine WL.p rfl rfl rfl (P.assign rfl) ?_
  refine WL.nil_ ?_
  refine End.seq ?_
  refine WC.seq ?_
  refine WC.seq ?_
  refine WC.region ?_
  refine WL.p rfl rfl rfl (P.loadW 1 Tryz.isAgg34 Tryz.sizeOf34 rfl rfl rfl) ?_
  refine WL.p rfl rfl rfl (P.move rfl) ?_
  refine WL.callv (ent_of Tryz.func44 rfl rfl) rfl rfl rfl (fun w hs => refGenValid_any e _ _ A0 c0 xs w (ha0.st hs) (hr.st hs) hsz) ?_
  refine WL.p rfl rfl rfl (P.not_ rfl) ?_
  refine WL.nil_ ?_
  refine End.seq ?_
  refine WC.cond rfl (fun hc17 => ?_) (fun hc17 => ?_)
  ·
    try simp only [decide_eq_true_eq, decide_eq_false_iff_not, beq_iff_eq, beq_eq_false_iff_ne, bne_iff_ne, bne_eq_false_iff_eq, Bool.not_eq_true', Bool.not_eq_false', ne_eq, Int.not_lt, Int.not_le] at hc17
    refine WC.seq ?_
    refine WC.region ?_
    refine WL.p rfl rfl rfl (P.build rfl (fun w => bo_34 Tryz.zeroValue34 (cs := #[_, _, _, _, _, _, _, _, _, _, _, _, _, _, _, _, _, _, _, _, _, _, _, _, _, _, _, _, _, _, _, _, _]) rfl rfl w)) ?_
    refine WL.storeW 0 Tryz.sizeOf34 rfl rfl rfl rfl rfl rfl rfl ?_
    refine WL.p rfl rfl rfl (P.assign rfl) ?_
    refine WL.p rfl rfl rfl (P.assign rfl) ?_
    refine WL.nil_ ?_
    refine End.seq ?_
    refine WC.ret ?_
    refine End.thenR ?_
    refine End.retCTT 0 rfl Tryz.isAgg34 Tryz.sizeOf34 rfl rfl rfl rfl rfl ?_
    exact fun w' hs' => RollR.err (by rw [rrollP, if_pos hc17]) rfl hs'
  ·
    try simp only [decide_eq_true_eq, decide_eq_false_iff_not, beq_iff_eq, beq_eq_false_iff_ne, bne_iff_ne, bne_eq_false_iff_eq, Bool.not_eq_true', Bool.not_eq_false', ne_eq, Int.not_lt, Int.not_le] at hc17
    refine WC.skip ?_
    refine End.seq ?_
    refine WC.seq ?_
    refine WC.region ?_
    refine WL.buildSlice rfl rfl rfl (fun w => run_buildSlice0 Tryz.underlying22 Tryz.sizeOf3 w) (fun b19 => ?_)
    refine WL.asRow 0 rfl rfl (by decide) ?_
    refine WL.p rfl rfl rfl (P.move rfl) ?_
    refine WL.extend 0 (l := 0) (m := xs.length) (xs := []) (news := ints xs) (all := ints xs) (lt := xs.length) el22 rfl rfl rfl rfl rfl (by simp [ints]) (fun w hs => (hr.st hs).src' hz) (ints_one _) rfl (Nat.zero_add _) (by simp only [maxLen]; omega) (by omega) (fun q0 cap0 hq0 => ?_)
    refine WL.p rfl rfl rfl (P.assign rfl) ?_
    refine WL.nil_ ?_
    refine End.seq ?_
    refine WC.seq ?_
    refine WC.seq ?_
    refine WC.region ?_
    refine WL.p rfl rfl rfl (P.assign rfl) ?_
    refine WL.nil_ ?_
    refine End.seq ?_
    refine WC.block ?_
    refine WC.loopD (σ := Nat × Int × List Int × Nat × Nat) (fun (k, last, now, g, c) => [(10, .int .i64 (k : Nat)), (9, .slice (some ⟨g, 0, none⟩) now.length c)]) (fun (k, last, now, g, c) => [.row 3 1 (.slice (some ⟨g, 0, none⟩) now.length c) now.length (ints now), .blk b6 34 (E.zero.cells vnil vnil), .blk b3 34 (({ e with last := last } : E).cells (.slice A1 e.alt.length c1) (.slice A2 e.grants.length c2))]) (fun (k, last, now, g, c) => k ≤ ls.length ∧ rroll e (e.last, xs) (ls.take k) = .ok (last, now) ∧ now.length ≤ xs.length + k) (fun (k, last, now, g, c) => ls.length - k) (0, e.last, xs, q0, cap0) ⟨Nat.zero_le _, rfl, Nat.le_refl _⟩ (Env.sub_cons rfl (Env.sub_cons rfl (Env.sub_nil))) [0, 1, 2] rfl rfl ?_
    rintro ⟨k, last, now, g, c⟩ ⟨hk, hroll, hnl⟩
    refine WC.rowCap 0 rfl (fun hnc => ?_)
    refine WC.seq ?_
    refine WC.seq ?_
    refine WC.region ?_
    refine WL.p rfl rfl rfl (P.move rfl) ?_
    refine WL.p rfl rfl rfl (P.move rfl) ?_
    refine WL.p rfl rfl rfl (P.lenR Tryz.underlying22 rfl) ?_
    refine WL.p rfl rfl rfl (P.cmp rfl rfl rfl) ?_
    refine WL.nil_ ?_
    refine End.seq ?_
    refine WC.cond rfl (fun hc25 => ?_) (fun hc25 => ?_)
    ·
      try simp only [decide_eq_true_eq, decide_eq_false_iff_not, beq_iff_eq, beq_eq_false_iff_ne, bne_iff_ne, bne_eq_false_iff_eq, Bool.not_eq_true', Bool.not_eq_false', ne_eq, Int.not_lt, Int.not_le] at hc25
      obtain ⟨bl, ol, rfl, hcl⟩ := hr9.at_ (by omega)
      obtain ⟨n, hn⟩ := get_of_lt (xs := ls) (k := k) (by omega)
      refine WC.skip ?_
      refine End.seq ?_
      refine WC.seq ?_
      refine WC.block ?_
      refine WC.seq ?_
      refine WC.nil1 ?_
      refine WC.nil1 ?_
      apply WC.draws (al := [6, 11]) (vs := [_, _, _, _, _, _, fun s => .tuple #[.agg ((rE (rin ({ e with last := last } : E) now n) ({ e with last := last } : E) n).cells (rV (rin ({ e with last := last } : E) now n) (.slice A1 e.alt.length c1)) (rV (rin ({ e with last := last } : E) now n) (.slice A2 e.grants.length c2))), rS (rin ({ e with last := last } : E) now n) (s 6), .int .i64 (rC (rin ({ e with last := last } : E) now n))], _, _, _, _, fun s => .pointer (some ⟨(s 11).1, 0, none⟩), fun _ => undef, _, _]) (Hs := fun v HH b s => (bnew (b 11) (It.blk (s 11).1 34 (bif b 12 then cellsOf (v 8 s) else #[.int .i64 0, .string ⟨#[]⟩, .int .i64 0, .int .i64 0, .int .i64 0, .int .i64 0, .int .i64 0, .int .i64 0, .int .i64 0, .int .i64 0, .int .i64 0, .int .i64 0, .int .i64 0, .int .i64 0, .int .i64 0, .int .i64 0, .bool false, .int .i64 0, .string ⟨#[]⟩, .string ⟨#[]⟩, .int .i64 0, .int .i64 0, .bool false, .slice none 0 0, .int .i64 0, .int .i64 0, .int .i64 0, .bool false, .string ⟨#[]⟩, .string ⟨#[]⟩, .int .i64 0, .int .i64 0, .slice none 0 0])) (bnew (b 6) (rI (rin ({ e with last := last } : E) now n) (s 6)) HH 0) 1)) (by kernel_rfl) (by kernel_rfl) (by kernel_rfl)
      case steps =>
        refine Stps.cons (Stp.p (fun b s hd => ⟨_, ⟨rfl, P.loadW 4 Tryz.isAgg34 Tryz.sizeOf34 rfl rfl rfl⟩, rfl, rfl⟩)) ?_
        refine Stps.cons (Stp.p (fun b s hd => ⟨_, ⟨rfl, P.move rfl⟩, rfl, rfl⟩)) ?_
        refine Stps.cons (Stp.p (fun b s hd => ⟨_, ⟨rfl, P.move rfl⟩, rfl, rfl⟩)) ?_
        refine Stps.cons (Stp.p (fun b s hd => ⟨_, ⟨rfl, P.move rfl⟩, rfl, rfl⟩)) ?_
        refine Stps.cons (Stp.p (fun b s hd => ⟨_, ⟨rfl, P.elemAddr Tryz.underlying22 Tryz.sizeOf3 rfl rfl (by omega) (by omega)⟩, rfl, rfl⟩)) ?_
        refine Stps.cons (Stp.p (fun b s hd => ⟨_, ⟨rfl, P.loadB Tryz.isAgg3 rfl (hcl k n hn 0 _ rfl)⟩, rfl, rfl⟩)) ?_
        refine Stps.cons (Stp.off [12] (by kernel_rfl) (Stp.callx2 0 (ent_of Tryz.func41 rfl rfl) rfl (fun b s hb hd => ⟨_, _, _, _, rfl, rfl, fun w hs => refRollInU ({ e with last := last } : E) _ _ (some ⟨g, 0, none⟩) c now n w ⟨(ha0.st hs).alt, (ha0.st hs).gr⟩ (sl_item hs (j := 2) rfl (by omega)) hsz (by omega) hnc (fun h => by cases h), fun q => rfl, ⟨_, rfl⟩, fun q => rfl⟩))) ?_
        refine Stps.cons (Stp.p (fun b s hd => ⟨_, ⟨rfl, P.move rfl⟩, rfl, rfl⟩)) ?_
        refine Stps.cons (Stp.p (fun b s hd => ⟨_, ⟨rfl, P.extract rfl rfl⟩, rfl, rfl⟩)) ?_
        refine Stps.cons (Stp.p (fun b s hd => ⟨_, ⟨rfl, P.extract rfl rfl⟩, rfl, rfl⟩)) ?_
        refine Stps.cons (Stp.p (fun b s hd => ⟨_, ⟨rfl, P.extract rfl rfl⟩, rfl, rfl⟩)) ?_
        refine Stps.cons (Stp.off [12] (by kernel_rfl) (Stp.alloc 1 Tryz.zeroValue34 rfl (fun b s q => ⟨rfl, rfl, _, rfl, fun hb => rfl⟩))) ?_
        refine Stps.cons (Stp.storeW 1 Tryz.sizeOf34 (fun b s hd => ⟨b 11, _, _, _, _, _, rfl, rfl, rfl, (E.one _ (rV_one rfl) (rV_one rfl)), rfl, rfl, hd 11 (by decide), rfl, rfl, rfl⟩)) ?_
        refine Stps.cons (Stp.p (fun b s hd => ⟨_, ⟨rfl, P.assign rfl⟩, rfl, rfl⟩)) ?_
        refine Stps.cons (Stp.p (fun b s hd => ⟨_, ⟨rfl, P.assign rfl⟩, rfl, rfl⟩)) ?_
        exact Stps.nil
      case h0 => exact fun s => rfl
      case agree => exact AgrAll.cons (AgrL.no (fun s x => rfl) (AgrL.no (fun s x => rfl) (AgrL.no (fun s x => rfl) (AgrL.no (fun s x => rfl) (AgrL.no (fun s x => rfl) (AgrL.no (fun s x => rfl) (AgrL.yes (by kernel_rfl) (AgrL.yes (by kernel_rfl) (AgrL.yes (by kernel_rfl) (AgrL.yes (by kernel_rfl) (AgrL.yes (by kernel_rfl) (AgrL.no (fun s x => rfl) (AgrL.yes (by kernel_rfl) (AgrL.yes (by kernel_rfl) (AgrL.yes (by kernel_rfl) (AgrL.nil)))))))))))))))) (AgrAll.cons (AgrL.no (fun s x => rfl) (AgrL.no (fun s x => rfl) (AgrL.no (fun s x => rfl) (AgrL.no (fun s x => rfl) (AgrL.no (fun s x => rfl) (AgrL.no (fun s x => rfl) (AgrL.no (fun s x => rfl) (AgrL.no (fun s x => rfl) (AgrL.no (fun s x => rfl) (AgrL.no (fun s x => rfl) (AgrL.no (fun s x => rfl) (AgrL.yes (by kernel_rfl) (AgrL.yes (by kernel_rfl) (AgrL.yes (by kernel_rfl) (AgrL.yes (by kernel_rfl) (AgrL.nil)))))))))))))))) (AgrAll.nil))
      intro s7
      refine End.shapeC (by kernel_rfl) (new := [(11, _), (12, _), (13, _), (28, _), (29, _), (30, _), (31, _), (32, _), (33, _), (34, _), (35, _), (36, _), (37, _), (38, _)]) (H' := [_, .blk _ _ #[_, _, _, _, _, _, _, _, _, _, _, _, _, _, _, _, _, _, _, _, _, _, _, _, _, _, _, _, _, _, _, _, _], _, _, _]) (Env.sub_cons rfl (Env.sub_cons rfl (Env.sub_cons rfl (Env.sub_cons rfl (Env.sub_cons rfl (Env.sub_cons rfl (Env.sub_cons rfl (Env.sub_cons rfl (Env.sub_cons rfl (Env.sub_cons rfl (Env.sub_cons rfl (Env.sub_cons rfl (Env.sub_cons rfl (Env.sub_cons rfl (Env.sub_nil))))))))))))))) rfl ?_
      refine End.seq ?_
      refine WC.seq ?_
      refine WC.seq ?_
      refine WC.region ?_
      refine WL.p rfl rfl rfl (P.move rfl) ?_
      refine WL.p rfl rfl rfl (P.cmp rfl rfl rfl) ?_
      refine WL.nil_ ?_
      refine End.seq ?_
      refine WC.cond rfl (fun hc40 => ?_) (fun hc40 => ?_)
      ·
        try simp only [decide_eq_true_eq, decide_eq_false_iff_not, beq_iff_eq, beq_eq_false_iff_ne, bne_iff_ne, bne_eq_false_iff_eq, Bool.not_eq_true', Bool.not_eq_false', ne_eq, Int.not_lt, Int.not_le] at hc40
        refine WC.seq ?_
        refine WC.region ?_
        refine WL.p rfl rfl rfl (P.build rfl (fun w => bo_34 Tryz.zeroValue34 (cs := #[_, _, _, _, _, _, _, _, _, _, _, _, _, _, _, _, _, _, _, _, _, _, _, _, _, _, _, _, _, _, _, _, _]) rfl rfl w)) ?_
        refine WL.p rfl rfl rfl (P.move rfl) ?_
        refine WL.storeW 3 Tryz.sizeOf34 rfl rfl rfl rfl rfl rfl rfl ?_
        refine WL.p rfl rfl rfl (P.assign rfl) ?_
        refine WL.p rfl rfl rfl (P.assign rfl) ?_
        refine WL.nil_ ?_
        refine End.seq ?_
        refine WC.ret ?_
        refine End.thenR ?_
        refine End.blkR ?_
        refine End.thenR ?_
        refine End.thenR ?_
        refine End.blkR ?_
        refine End.thenR ?_
        refine End.retCTT 3 rfl Tryz.isAgg34 Tryz.sizeOf34 rfl rfl rfl rfl rfl ?_
        exact fun w' hs' => RollR.err (by rw [rrollP, if_neg (by rw [hc17]; simp)]; exact rroll_err (k := k + 1) ((rroll_snoc hroll hn).trans (rstep_err (rin_no hc40)))) rfl hs'
      ·
        try simp only [decide_eq_true_eq, decide_eq_false_iff_not, beq_iff_eq, beq_eq_false_iff_ne, bne_iff_ne, bne_eq_false_iff_eq, Bool.not_eq_true', Bool.not_eq_false', ne_eq, Int.not_lt, Int.not_le] at hc40
        obtain ⟨gone, hgone⟩ := rin_ok hc40
        have hgl := rin_len hgone
        rw [hgone]
        refine WC.skip ?_
        refine End.seq ?_
        refine WC.seq ?_
        refine WC.region ?_
        refine WL.p rfl rfl rfl (P.loadW 1 Tryz.isAgg34 Tryz.sizeOf34 rfl rfl rfl) ?_
        refine WL.storeW 4 Tryz.sizeOf34 rfl rfl rfl (E.one _ rfl rfl) rfl rfl rfl ?_
        refine WL.nil_ ?_
        refine End.seq ?_
        refine WC.nil1 ?_
        refine WC.nil1 ?_
        apply WC.draws2 (al := [0, 10, 5, 11]) (vs := [fun s => .slice (some ⟨(s 0).1, 0, none⟩) 0 0, _, _, _, _, fun s => .slice (some ⟨(s 5).1, 0, none⟩) (now.drop gone.length).length (s 5).2, _, _, _, _, fun s => .slice (some ⟨(s 10).1, 0, none⟩) 1 1, fun s => .slice (some ⟨(s 11).1, 0, none⟩) (now.drop gone.length ++ [n]).length (s 11).2, _]) (Hs := fun v HH b s => (bnew (b 11) (.row 3 1 (.slice (some ⟨(s 11).1, 0, none⟩) (now.drop gone.length ++ [n]).length (s 11).2) (now.drop gone.length ++ [n]).length (ints (now.drop gone.length ++ [n]))) (bnew (b 5) (.row 3 1 (.slice (some ⟨(s 5).1, 0, none⟩) (now.drop gone.length).length (s 5).2) (now.drop gone.length).length (ints (now.drop gone.length))) (bnew (b 0) (.row 3 1 (.slice (some ⟨(s 0).1, 0, none⟩) 0 0) 0 []) (bnew (b 10) (It.blk (s 10).1 3 #[.int .i64 n]) HH 1) 0) 0) 0)) (by kernel_rfl) (by kernel_rfl) (by kernel_rfl)
        case steps =>
          refine Stps2.cons (Stp.off [5, 11] (by kernel_rfl) (Stp.row0 0 Tryz.underlying22 Tryz.sizeOf3 rfl (fun b s => ⟨rfl, fun q => ⟨rfl, _, rfl, fun hb => rfl⟩⟩))) ?_
          refine Stps2.cons (Stp.p (fun b s hd => ⟨_, ⟨rfl, P.move rfl⟩, rfl, rfl⟩)) ?_
          refine Stps2.cons (Stp.p (fun b s hd => ⟨_, ⟨rfl, P.move rfl⟩, rfl, rfl⟩)) ?_
          refine Stps2.cons (Stp.p (fun b s hd => ⟨_, ⟨rfl, P.lenR Tryz.underlying22 rfl⟩, rfl, rfl⟩)) ?_
          refine Stps2.cons (Stp.p (fun b s hd => ⟨_, ⟨rfl, P.cutAny Tryz.underlying22 Tryz.sizeOf3 rfl rfl (by omega) (by omega)⟩, rfl, rfl⟩)) ?_
          refine Stps2.cons (Stp.off [11] (by kernel_rfl) (Stp.extend 0 (m := now.length - gone.length) (news := ints (now.drop gone.length)) el22 rfl (by simp [ints]) (ints_one _) (fun b s hd => ⟨_, _, _, [], _, _, rfl, rfl, rfl, fun w hs => by have h9 := ((sl_item hs (j := 4) (xs := now) rfl (by omega)).cut gone.length hnc).src' (c := c - gone.length) (fun h => by unfold cutA at h; split at h <;> cases h); rw [List.length_drop] at h9; exact h9, ⟨_, by have h0 := hd 0 (by decide); simp only [bnew, offl, h0, cond_true]; rfl⟩, rfl, by rw [List.length_drop]; omega, by simp only [maxLen]; omega, by omega, fun q => ⟨rfl, fun hb => rfl⟩⟩))) ?_
          refine Stps2.cons (Stp.p (fun b s hd => ⟨_, ⟨rfl, P.move rfl⟩, rfl, rfl⟩)) ?_
          refine Stps2.cons (Stp.p (fun b s hd => ⟨_, ⟨rfl, P.move rfl⟩, rfl, rfl⟩)) ?_
          refine Stps2.cons (Stp.p (fun b s hd => ⟨_, ⟨rfl, P.elemAddr Tryz.underlying22 Tryz.sizeOf3 rfl rfl (by omega) (by omega)⟩, rfl, rfl⟩)) ?_
          refine Stps2.cons (Stp.p (fun b s hd => ⟨_, ⟨rfl, P.loadB Tryz.isAgg3 rfl (hcl k n hn 0 _ rfl)⟩, rfl, rfl⟩)) ?_
          refine Stps2.cons (Stp.row 1 rfl (fun b s => ⟨rfl, _, _, rfl, fun w => by refine run_rowL Tryz.underlying22 Tryz.sizeOf3 Tryz.zeroValue3 ?_ ?_ ?_ ?_ ?_ ?_ w <;> rfl, fun q => ⟨rfl, _, rfl, fun hb => rfl⟩⟩)) ?_
          refine Stps2.cons (Stp.extend 0 (m := 1) (news := ints [n]) el22 rfl rfl (ints_one _) (fun b s hd => ⟨_, _, _, ints (now.drop gone.length), _, _, rfl, rfl, rfl, fun w hs => .inr ⟨_, rfl, news_blk hs (j := 1) (by have h10 := hd 10 (by decide); simp only [bnew, h10, cond_true]; rfl) rfl⟩, ⟨_, by have h5 := hd 5 (by decide); simp only [bnew, h5, cond_true]; rfl⟩, ints_app _ _, by simp, by simp only [maxLen]; simp; omega, by simp; omega, fun q => ⟨rfl, fun hb => rfl⟩⟩)) ?_
          refine Stps2.cons (Stp.p (fun b s hd => ⟨_, ⟨rfl, P.assign rfl⟩, rfl, rfl⟩)) ?_
          exact Stps2.nil
        case h0 => exact fun s => rfl
        case agree => exact AgrAll.cons (AgrL.yes (by kernel_rfl) (AgrL.no (fun s x => rfl) (AgrL.no (fun s x => rfl) (AgrL.no (fun s x => rfl) (AgrL.no (fun s x => rfl) (AgrL.yes (by kernel_rfl) (AgrL.no (fun s x => rfl) (AgrL.no (fun s x => rfl) (AgrL.no (fun s x => rfl) (AgrL.no (fun s x => rfl) (AgrL.no (fun s x => rfl) (AgrL.yes (by kernel_rfl) (AgrL.yes (by kernel_rfl) (AgrL.nil)))))))))))))) (AgrAll.cons (AgrL.no (fun s x => rfl) (AgrL.no (fun s x => rfl) (AgrL.no (fun s x => rfl) (AgrL.no (fun s x => rfl) (AgrL.no (fun s x => rfl) (AgrL.no (fun s x => rfl) (AgrL.no (fun s x => rfl) (AgrL.no (fun s x => rfl) (AgrL.no (fun s x => rfl) (AgrL.no (fun s x => rfl) (AgrL.yes (by kernel_rfl) (AgrL.yes (by kernel_rfl) (AgrL.yes (by kernel_rfl) (AgrL.nil)))))))))))))) (AgrAll.cons (AgrL.no (fun s x => rfl) (AgrL.no (fun s x => rfl) (AgrL.no (fun s x => rfl) (AgrL.no (fun s x => rfl) (AgrL.no (fun s x => rfl) (AgrL.yes (by kernel_rfl) (AgrL.no (fun s x => rfl) (AgrL.no (fun s x => rfl) (AgrL.no (fun s x => rfl) (AgrL.no (fun s x => rfl) (AgrL.no (fun s x => rfl) (AgrL.yes (by kernel_rfl) (AgrL.yes (by kernel_rfl) (AgrL.nil)))))))))))))) (AgrAll.cons (AgrL.no (fun s x => rfl) (AgrL.no (fun s x => rfl) (AgrL.no (fun s x => rfl) (AgrL.no (fun s x => rfl) (AgrL.no (fun s x => rfl) (AgrL.no (fun s x => rfl) (AgrL.no (fun s x => rfl) (AgrL.no (fun s x => rfl) (AgrL.no (fun s x => rfl) (AgrL.no (fun s x => rfl) (AgrL.no (fun s x => rfl) (AgrL.yes (by kernel_rfl) (AgrL.yes (by kernel_rfl) (AgrL.nil)))))))))))))) (AgrAll.nil))))
        intro s11
        refine End.shapeD (by kernel_rfl) (new := [(9, _), (44, _), (45, _), (46, _), (47, _), (48, _), (49, _), (50, _), (51, _), (52, _), (53, _), (54, _), (55, _)]) (H' := [_, _, _, _, _, _, _]) (Env.sub_cons rfl (Env.sub_cons rfl (Env.sub_cons rfl (Env.sub_cons rfl (Env.sub_cons rfl (Env.sub_cons rfl (Env.sub_cons rfl (Env.sub_cons rfl (Env.sub_cons rfl (Env.sub_cons rfl (Env.sub_cons rfl (Env.sub_cons rfl (Env.sub_cons rfl (Env.sub_nil)))))))))))))) rfl ?_
        refine End.blkN ?_
        refine End.seq ?_
        refine WC.region ?_
        refine WL.p rfl rfl rfl (P.move rfl) ?_
        refine WL.p rfl rfl rfl (P.ari64 rfl rfl rfl (by omega)) ?_
        refine WL.p rfl rfl rfl (P.assign rfl) ?_
        refine WL.nil_ ?_
        refine End.againD (k + 1, n, now.drop gone.length ++ [n], (s11 11).1, (s11 11).2) ?_ ?_ rfl (Env.sub_cons rfl (Env.sub_cons rfl (Env.sub_nil))) rfl [0, 5, 6] rfl rfl
        · exact ⟨by omega, by rw [rroll_snoc hroll hn, rstep, hgone], by simp; omega⟩
        · show ls.length - (k + 1) < ls.length - k; omega
    ·
      try simp only [decide_eq_true_eq, decide_eq_false_iff_not, beq_iff_eq, beq_eq_false_iff_ne, bne_iff_ne, bne_eq_false_iff_eq, Bool.not_eq_true', Bool.not_eq_false', ne_eq, Int.not_lt, Int.not_le] at hc25
      refine WC.exit ?_
      refine End.thenX ?_
      refine End.thenX ?_
      refine End.blkX ?_
      refine End.seq ?_
      refine WC.seq ?_
      refine WC.region ?_
      refine WL.p rfl rfl rfl (P.loadW 2 Tryz.isAgg34 Tryz.sizeOf34 rfl rfl rfl) ?_
      refine WL.p rfl rfl rfl (P.move rfl) ?_
      refine WL.storeW 1 Tryz.sizeOf34 rfl rfl rfl rfl rfl rfl rfl ?_
      refine WL.p rfl rfl rfl (P.assign rfl) ?_
      refine WL.p rfl rfl rfl (P.assign rfl) ?_
      refine WL.nil_ ?_
      refine End.seq ?_
      refine WC.ret ?_
      refine End.retCTT 1 rfl Tryz.isAgg34 Tryz.sizeOf34 rfl rfl rfl rfl rfl ?_
      have ek : k = ls.length := by omega
      rw [ek, List.take_length] at hroll
      have hP : rrollP e xs ls = .ok (last, now) := by rw [rrollP, if_neg (by rw [hc17]; simp), hroll]
      rw [hP]
      exact fun w' hs' => ⟨(g, c), trivial, rfl, hs'.sel [0] rfl⟩

end Go.Proofs.YtlkkiimmangplaaGreatDoor
