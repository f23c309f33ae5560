/- The law on one new generation and other limits. -/
import Derived.Test.YtlkkiimmangplaaGreatDoorP21
namespace Go.Proofs.YtlkkiimmangplaaGreatDoor
open Go.RowKit
set_option linter.unusedVariables false
set_option linter.unusedSimpArgs false

def gL (r : Except Int (List Int)) : List Int := match r with | .error _ => [] | .ok g => g
abbrev InS (r : Except Int (List Int)) (p : Option Addr × Nat × It) : Prop := (∀ B w', St B [p.2.2] w' → Sl encI 1 w' p.1 (gL r)) ∧ (p.1 = none → p.2.1 = 0)
theorem row_none {w0 w : World} {H : List It} {j e sz n c : Nat} {A : Option Addr} {xs : List Value} (hs : St w0 H w) (hj : H[j]? = some (.row e sz (.slice A n c) n xs)) (h : A = none) : c = 0 := by
  rcases (hs.ok j _ hj).2 with ⟨h1, _⟩ | ⟨g, cap, cur, h1, _⟩
  · cases h1; rfl
  · subst h; cases h1
abbrev InV (r : Except Int (List Int)) (e : E) (n : Int) (va vg : Value) (p : Option Addr × Nat × It) : Value := .tuple #[.agg ((rE r e n).cells (rV r va) (rV r vg)), .slice p.1 (gL r).length p.2.1, .int .i64 (rC r)]
theorem rEnt {w : World} {e : E} {n : Int} {va vg : Value} (r : Except Int (List Int)) (h : EntAt w e va vg) : EntAt w (rE r e n) (rV r va) (rV r vg) := by
  cases r with
  | error c => exact entNil rfl rfl
  | ok g => exact ⟨h.alt, h.gr⟩
theorem foldP_cases (e : E) (xs : List Int) (n : Int) : (∃ c, foldP e xs [n] = .error c ∧ rin e xs n = .error c) ∨ ∃ now gone, foldP e xs [n] = .ok (n, now, gone) ∧ rin e xs n = .ok gone := by
  have h := fold1_eq e xs n
  cases hP : foldP e xs [n] with
  | error c => rw [hP] at h; exact .inl ⟨c, rfl, h.symm⟩
  | ok q =>
    obtain ⟨last, now, gone⟩ := q
    have hl := fold1_last hP
    rw [hP] at h
    exact .inr ⟨now, gone, by rw [hl], h.symm⟩
theorem rollInU (e : E) (va vg : Value) (A0 : Option Addr) (c0 : Nat) (xs : List Int) (n : Int) (w : World) (hg : Good w) (ha : EntAt w e va vg) (hr : Sl encI 1 w A0 xs) (hx : xs.length ≤ 100) :
    Calls Tryz.prog 36 #[.agg (e.cells va vg), .slice A0 xs.length c0, .int .i64 n] w (Ret w (InS (rin e xs n)) (InV (rin e xs n) e n va vg) (fun p => [p.2.2])) := by
  rcases foldP_cases e xs n with ⟨c, h1, h2⟩ | ⟨now, gone, h1, h2⟩
  · rw [h2]
    refine (rollIn_err e va vg A0 c0 xs n c w hg ha hr hx h1).mono fun en w' h => ?_
    exact ⟨(none, 0, .nil), ⟨fun B w' hs => Sl.nil _ _ _, fun _ => rfl⟩, h.1, h.2.nil⟩
  · rw [h2]
    refine (rollIn_ok e va vg A0 c0 xs n n now gone w hg ha hr hx h1).mono fun en w' h => ?_
    obtain ⟨p, h3, h4, h5⟩ := h
    exact ⟨(p.1, p.2, _), ⟨fun B w' hs => sl_item hs (j := 0) rfl (by show gone.length ≤ 100000; omega), row_none h5 (j := 0) rfl⟩, h4, h5⟩
theorem refRollInU2 (e : E) (va vg : Value) (A0 : Option Addr) (c0 : Nat) (xs : List Int) (n : Int) (w : World) (ha : EntAt w e va vg) (hr : Sl encI 1 w A0 xs) (hsz : e.name.size < 4294967281) (hx : xs.length ≤ 100) (hc0 : xs.length ≤ c0) (hz : A0 = none → c0 = 0) :
    Calls Tryz.prog 41 #[.agg (e.cells va vg), .slice A0 xs.length c0, .int .i64 n] w (Ret w (InS (rin e xs n)) (InV (rin e xs n) e n va vg) (fun p => [p.2.2])) := by
  refine (refRollIn_any e va vg A0 c0 xs n w ha hr hsz hx hc0 hz).mono fun en w' h => ?_
  cases hR : rin e xs n with
  | error c =>
    rw [hR] at h
    exact ⟨(none, 0, .nil), ⟨fun B w' hs => Sl.nil _ _ _, fun _ => rfl⟩, h.1, h.2.nil⟩
  | ok gone =>
    rw [hR] at h
    obtain ⟨p, _, h2, h3⟩ := h
    have hl := rin_len hR
    exact ⟨(some ⟨p.1, 0, none⟩, p.2, _), ⟨fun B w' hs => sl_item hs (j := 0) rfl (by show gone.length ≤ 100000; omega), fun h => by cases h⟩, h2, h3⟩
theorem lim_len {v : Bool} {xs gone : List Int} {limit : Int} (h : limP v xs limit = .ok gone) : gone.length ≤ xs.length := by
  unfold limP at h
  split at h
  · cases h
  · split at h
    · cases h
    · cases h; exact List.length_take_le' ..
abbrev LimV (r : Except Int (List Int)) (p : Option Addr × Nat × It) : Value := .tuple #[.slice p.1 (gL r).length p.2.1, .int .i64 (rC r)]
theorem LimR.u {w : World} {v : Bool} {xs : List Int} {limit : Int} (hx : xs.length ≤ 100) {en : Ending} {w' : World} (h : LimR w (limP v xs limit) en w') : Ret w (InS (limP v xs limit)) (LimV (limP v xs limit)) (fun p => [p.2.2]) en w' := by
  cases hR : limP v xs limit with
  | error c =>
    rw [hR] at h
    exact ⟨(none, 0, .nil), ⟨fun B w' hs => Sl.nil _ _ _, fun _ => rfl⟩, h.1, h.2.nil⟩
  | ok gone =>
    rw [hR] at h
    obtain ⟨p, _, h2, h3⟩ := h
    have hl := lim_len hR
    exact ⟨(p.1, p.2, _), ⟨fun B w' hs => sl_item hs (j := 0) rfl (by show gone.length ≤ 100000; omega), row_none h3 (j := 0) rfl⟩, h2, h3⟩
theorem limitU (e : E) (va vg : Value) (A0 : Option Addr) (c0 : Nat) (xs : List Int) (limit : Int) (w : World) (hg : Good w) (ha : EntAt w e va vg) (hr : Sl encI 1 w A0 xs) (hx : xs.length ≤ 100) (hc0 : xs.length ≤ c0) :
    Calls Tryz.prog 42 #[.agg (e.cells va vg), .slice A0 xs.length c0, .int .i64 limit] w (Ret w (InS (limP (rgenV e xs) xs limit)) (LimV (limP (rgenV e xs) xs limit)) (fun p => [p.2.2])) := by
  rw [← genV_eq]
  exact (limit_any e va vg A0 c0 xs limit w hg ha hr hx hc0).mono fun en w' h => h.u hx
theorem refLimitU (e : E) (va vg : Value) (A0 : Option Addr) (c0 : Nat) (xs : List Int) (limit : Int) (w : World) (ha : EntAt w e va vg) (hr : Sl encI 1 w A0 xs) (hsz : e.name.size < 4294967281) (hx : xs.length ≤ 100) (hc0 : xs.length ≤ c0) (hz : A0 = none → c0 = 0) :
    Calls Tryz.prog 43 #[.agg (e.cells va vg), .slice A0 xs.length c0, .int .i64 limit] w (Ret w (InS (limP (rgenV e xs) xs limit)) (LimV (limP (rgenV e xs) xs limit)) (fun p => [p.2.2])) :=
  (refLimit_any e va vg A0 c0 xs limit w ha hr hsz hx hc0 hz).mono fun en w' h => h.u hx

set_option maxRecDepth 100000 in
theorem rolls_law (e : E) (va vg : Value) (A0 : Option Addr) (c0 : Nat) (xs : List Int) (n limit : Int) (w : World) (hg : Good w) (ha : EntAt w e va vg) (hr : Sl encI 1 w A0 xs) (hc0 : xs.length ≤ c0) (hz : A0 = none → c0 = 0) :
    Calls Tryz.prog 9 #[.agg (e.cells va vg), .slice A0 xs.length c0, .int .i64 n, .int .i64 limit] w (RetV w (.bool true)) := by
  have ha0 := ha
  obtain ⟨⟨A1, c1, rfl, hc1, hr1⟩, ⟨A2, c2, rfl, hc2, hr2⟩⟩ := ha
  refine enter Tryz.func9 rfl Tryz.ntmps9 rfl ?_
  refine WC.seq ?_
  refine WC.region ?_
  refine WL.box rfl rfl rfl (fun b4 => ?_)
  refine WL.p rfl rfl rfl (P.assign rfl) ?_
  refine WL.nil_ ?_
  refine End.seq ?_
  refine WC.seq ?_
  refine WC.seq ?_
  refine WC.region ?_
  refine WL.callv (ent_of Tryz.func26 rfl rfl) rfl rfl rfl (fun w hs => awake_any w (hg.st hs)) ?_
  refine WL.p rfl rfl rfl (P.not_ rfl) ?_
  refine WL.nil_ ?_
  refine End.seq ?_
  refine WC.cond rfl (fun hc20 => ?_) (fun hc20 => ?_)
  ·
    refine WC.seq ?_
    refine WC.region ?_
    refine WL.p rfl rfl rfl (P.assign rfl) ?_
    refine WL.nil_ ?_
    refine End.seq ?_
    refine WC.ret ?_
    refine End.thenR ?_
    refine End.ret1 rfl rfl ?_
    exact absurd hc20 (by decide)
  ·
    refine WC.skip ?_
    refine End.seq ?_
    refine WC.seq ?_
    refine WC.seq ?_
    refine WC.region ?_
    refine WL.p rfl rfl rfl (P.loadW 0 Tryz.isAgg34 Tryz.sizeOf34 rfl rfl rfl) ?_
    refine WL.p rfl rfl rfl (P.move rfl) ?_
    refine WL.callv (ent_of Tryz.func29 rfl rfl) rfl rfl rfl (fun w hs => few_any e _ _ A0 none xs.length c0 0 0 w (ha0.st hs)) ?_
    refine WL.p rfl rfl rfl (P.not_ rfl) ?_
    refine WL.nil_ ?_
    refine End.seq ?_
    refine WC.cond rfl (fun hc24 => ?_) (fun hc24 => ?_)
    ·
      refine WC.seq ?_
      refine WC.region ?_
      refine WL.p rfl rfl rfl (P.assign rfl) ?_
      refine WL.nil_ ?_
      refine End.seq ?_
      refine WC.ret ?_
      refine End.thenR ?_
      refine End.ret1 rfl rfl ?_
      exact fun w' hs' => RetV.of rfl hs'
    ·
      have hf := fewG_of (show fewG e xs.length 0 = true by simpa using hc24)
      refine WC.skip ?_
      refine End.seq ?_
      refine WC.seq ?_
      refine WC.region ?_
      refine WL.p rfl rfl rfl (P.loadW 0 Tryz.isAgg34 Tryz.sizeOf34 rfl rfl rfl) ?_
      refine WL.p rfl rfl rfl (P.move rfl) ?_
      refine WL.p rfl rfl rfl (P.move rfl) ?_
      refine WL.callx (ent_of Tryz.func36 rfl rfl) rfl rfl rfl (fun w hs => rollInU e _ _ A0 c0 xs n w (hg.st hs) (ha0.st hs) (hr.st hs) (by omega)) (fun p hp => ?_)
      refine WL.p rfl rfl rfl (P.move rfl) ?_
      refine WL.p rfl rfl rfl (P.extract rfl rfl) ?_
      refine WL.p rfl rfl rfl (P.extract rfl rfl) ?_
      refine WL.p rfl rfl rfl (P.extract rfl rfl) ?_
      refine WL.alloc Tryz.zeroValue34 rfl rfl (fun b9 => ?_)
      refine WL.storeW 0 Tryz.sizeOf34 rfl rfl rfl (E.one _ (rV_one rfl) (rV_one rfl)) rfl rfl rfl ?_
      refine WL.p rfl rfl rfl (P.assign rfl) ?_
      refine WL.p rfl rfl rfl (P.assign rfl) ?_
      refine WL.nil_ ?_
      refine End.seq ?_
      refine WC.seq ?_
      refine WC.region ?_
      refine WL.p rfl rfl rfl (P.loadW 2 Tryz.isAgg34 Tryz.sizeOf34 rfl rfl rfl) ?_
      refine WL.p rfl rfl rfl (P.move rfl) ?_
      refine WL.p rfl rfl rfl (P.move rfl) ?_
      refine WL.callx (ent_of Tryz.func41 rfl rfl) rfl rfl rfl (fun w hs => refRollInU2 e _ _ A0 c0 xs n w (ha0.st hs) (hr.st hs) (by omega) (by omega) hc0 hz) (fun p2 hp2 => ?_)
      refine WL.p rfl rfl rfl (P.move rfl) ?_
      refine WL.p rfl rfl rfl (P.extract rfl rfl) ?_
      refine WL.p rfl rfl rfl (P.extract rfl rfl) ?_
      refine WL.p rfl rfl rfl (P.extract rfl rfl) ?_
      refine WL.alloc Tryz.zeroValue34 rfl rfl (fun b12 => ?_)
      refine WL.storeW 0 Tryz.sizeOf34 rfl rfl rfl (E.one _ (rV_one rfl) (rV_one rfl)) rfl rfl rfl ?_
      refine WL.p rfl rfl rfl (P.assign rfl) ?_
      refine WL.p rfl rfl rfl (P.assign rfl) ?_
      refine WL.nil_ ?_
      refine End.seq ?_
      refine WC.seq ?_
      refine WC.region ?_
      refine WL.p rfl rfl rfl (P.loadW 4 Tryz.isAgg34 Tryz.sizeOf34 rfl rfl rfl) ?_
      refine WL.p rfl rfl rfl (P.move rfl) ?_
      refine WL.p rfl rfl rfl (P.move rfl) ?_
      refine WL.callx (ent_of Tryz.func42 rfl rfl) rfl rfl rfl (fun w hs => limitU e _ _ A0 c0 xs limit w (hg.st hs) (ha0.st hs) (hr.st hs) (by omega) hc0) (fun p3 hp3 => ?_)
      refine WL.p rfl rfl rfl (P.move rfl) ?_
      refine WL.p rfl rfl rfl (P.extract rfl rfl) ?_
      refine WL.p rfl rfl rfl (P.extract rfl rfl) ?_
      refine WL.p rfl rfl rfl (P.assign rfl) ?_
      refine WL.p rfl rfl rfl (P.assign rfl) ?_
      refine WL.nil_ ?_
      refine End.seq ?_
      refine WC.seq ?_
      refine WC.region ?_
      refine WL.p rfl rfl rfl (P.loadW 5 Tryz.isAgg34 Tryz.sizeOf34 rfl rfl rfl) ?_
      refine WL.p rfl rfl rfl (P.move rfl) ?_
      refine WL.p rfl rfl rfl (P.move rfl) ?_
      refine WL.callx (ent_of Tryz.func43 rfl rfl) rfl rfl rfl (fun w hs => refLimitU e _ _ A0 c0 xs limit w (ha0.st hs) (hr.st hs) (by omega) (by omega) hc0 hz) (fun p4 hp4 => ?_)
      refine WL.p rfl rfl rfl (P.move rfl) ?_
      refine WL.p rfl rfl rfl (P.extract rfl rfl) ?_
      refine WL.p rfl rfl rfl (P.extract rfl rfl) ?_
      refine WL.p rfl rfl rfl (P.assign rfl) ?_
      refine WL.p rfl rfl rfl (P.assign rfl) ?_
      refine WL.nil_ ?_
      refine End.seq ?_
      refine WC.seq ?_
      refine WC.quiet (by kernel_rfl) ?_
      refine WQ.p rfl rfl rfl (P.loadW 6 Tryz.isAgg34 Tryz.sizeOf34 rfl rfl rfl) ?_
      refine WQ.p rfl rfl rfl (P.move rfl) ?_
      refine WQ.callv (ent_of Tryz.func35 rfl rfl) rfl rfl rfl (fun w hs => genValid_any e _ _ A0 c0 xs w (hg.st hs) (ha0.st hs) (hr.st hs)) ?_
      refine WQ.p rfl rfl rfl (P.loadW 6 Tryz.isAgg34 Tryz.sizeOf34 rfl rfl rfl) ?_
      refine WQ.p rfl rfl rfl (P.move rfl) ?_
      refine WQ.callv (ent_of Tryz.func44 rfl rfl) rfl rfl rfl (fun w hs => refGenValid_any e _ _ A0 c0 xs w (ha0.st hs) (hr.st hs) (by omega)) ?_
      refine WQ.p rfl rfl rfl (P.eqB Tryz.underlying4 rfl rfl) ?_
      refine WQ.p rfl rfl rfl (P.move rfl) ?_
      refine WQ.split 62 rfl (fun hs62 => ?_) (fun hs62 => ?_)
      ·
        refine WQ.p rfl rfl rfl (P.loadW 4 Tryz.isAgg34 Tryz.sizeOf34 rfl rfl rfl) ?_
        refine WQ.p rfl rfl rfl (P.loadW 2 Tryz.isAgg34 Tryz.sizeOf34 rfl rfl rfl) ?_
        refine WQ.callv (ent_of Tryz.func32 rfl rfl) rfl rfl rfl (fun w hs => refSame_any _ _ _ _ _ _ w (rEnt (rin e xs n) (ha0.st hs)) (rEnt (rin e xs n) (ha0.st hs))) ?_
        refine WQ.p rfl rfl rfl (P.pickT rfl rfl) ?_
        refine WQ.p rfl rfl rfl (P.move rfl) ?_
        refine WQ.split 67 rfl (fun hs67 => ?_) (fun hs67 => ?_)
        ·
          refine WQ.p rfl rfl rfl (P.move rfl) ?_
          refine WQ.p rfl rfl rfl (P.move rfl) ?_
          refine WQ.callv (ent_of Tryz.func33 rfl rfl) rfl rfl rfl (fun w hs => refInts_any _ _ _ _ _ _ w (hp.1 _ _ (hs.sel [5] rfl)) (hp2.1 _ _ (hs.sel [3] rfl))) ?_
          refine WQ.p rfl rfl rfl (P.pickT rfl rfl) ?_
          refine WQ.p rfl rfl rfl (P.move rfl) ?_
          refine WQ.split 72 rfl (fun hs72 => ?_) (fun hs72 => ?_)
          ·
            refine WQ.p rfl rfl rfl (P.move rfl) ?_
            refine WQ.p rfl rfl rfl (P.move rfl) ?_
            refine WQ.p rfl rfl rfl (P.cmp rfl rfl rfl) ?_
            refine WQ.p rfl rfl rfl (P.pickT rfl rfl) ?_
            refine WQ.p rfl rfl rfl (P.move rfl) ?_
            refine WQ.split 77 rfl (fun hs77 => ?_) (fun hs77 => ?_)
            ·
              refine WQ.p rfl rfl rfl (P.move rfl) ?_
              refine WQ.p rfl rfl rfl (P.move rfl) ?_
              refine WQ.callv (ent_of Tryz.func33 rfl rfl) rfl rfl rfl (fun w hs => refInts_any _ _ _ _ _ _ w (hp3.1 _ _ (hs.sel [1] rfl)) (hp4.1 _ _ (hs.sel [0] rfl))) ?_
              refine WQ.p rfl rfl rfl (P.pickT rfl rfl) ?_
              refine WQ.p rfl rfl rfl (P.move rfl) ?_
              refine WQ.split 82 rfl (fun hs82 => ?_) (fun hs82 => ?_)
              ·
                refine WQ.p rfl rfl rfl (P.move rfl) ?_
                refine WQ.p rfl rfl rfl (P.move rfl) ?_
                refine WQ.p rfl rfl rfl (P.cmp rfl rfl rfl) ?_
                refine WQ.p rfl rfl rfl (P.pickT rfl rfl) ?_
                refine WQ.p rfl rfl rfl (P.assign rfl) ?_
                refine WQ.nil_ ?_
                refine End.seq ?_
                refine WC.ret ?_
                refine End.ret1 rfl rfl ?_
                exact fun w' hs' => RetV.of (by simp) hs'
              ·
                refine WQ.off rfl rfl ?_
                refine WQ.off rfl rfl ?_
                refine WQ.off rfl rfl ?_
                refine WQ.p rfl rfl rfl (P.pickF rfl rfl) ?_
                refine WQ.p rfl rfl rfl (P.assign rfl) ?_
                refine WQ.nil_ ?_
                refine End.seq ?_
                refine WC.ret ?_
                refine End.ret1 rfl rfl ?_
                exact absurd hs82 (by simp)
            ·
              refine WQ.off rfl rfl ?_
              refine WQ.off rfl rfl ?_
              refine WQ.off rfl rfl ?_
              refine WQ.p rfl rfl rfl (P.pickF rfl rfl) ?_
              refine WQ.p rfl rfl rfl (P.move rfl) ?_
              refine WQ.off rfl rfl ?_
              refine WQ.off rfl rfl ?_
              refine WQ.off rfl rfl ?_
              refine WQ.p rfl rfl rfl (P.pickF rfl rfl) ?_
              refine WQ.p rfl rfl rfl (P.assign rfl) ?_
              refine WQ.nil_ ?_
              refine End.seq ?_
              refine WC.ret ?_
              refine End.ret1 rfl rfl ?_
              exact absurd hs77 (by simp)
          ·
            refine WQ.off rfl rfl ?_
            refine WQ.off rfl rfl ?_
            refine WQ.off rfl rfl ?_
            refine WQ.p rfl rfl rfl (P.pickF rfl rfl) ?_
            refine WQ.p rfl rfl rfl (P.move rfl) ?_
            refine WQ.off rfl rfl ?_
            refine WQ.off rfl rfl ?_
            refine WQ.off rfl rfl ?_
            refine WQ.p rfl rfl rfl (P.pickF rfl rfl) ?_
            refine WQ.p rfl rfl rfl (P.move rfl) ?_
            refine WQ.off rfl rfl ?_
            refine WQ.off rfl rfl ?_
            refine WQ.off rfl rfl ?_
            refine WQ.p rfl rfl rfl (P.pickF rfl rfl) ?_
            refine WQ.p rfl rfl rfl (P.assign rfl) ?_
            refine WQ.nil_ ?_
            refine End.seq ?_
            refine WC.ret ?_
            refine End.ret1 rfl rfl ?_
            exact absurd hs72 (by simp)
        ·
          refine WQ.off rfl rfl ?_
          refine WQ.off rfl rfl ?_
          refine WQ.off rfl rfl ?_
          refine WQ.p rfl rfl rfl (P.pickF rfl rfl) ?_
          refine WQ.p rfl rfl rfl (P.move rfl) ?_
          refine WQ.off rfl rfl ?_
          refine WQ.off rfl rfl ?_
          refine WQ.off rfl rfl ?_
          refine WQ.p rfl rfl rfl (P.pickF rfl rfl) ?_
          refine WQ.p rfl rfl rfl (P.move rfl) ?_
          refine WQ.off rfl rfl ?_
          refine WQ.off rfl rfl ?_
          refine WQ.off rfl rfl ?_
          refine WQ.p rfl rfl rfl (P.pickF rfl rfl) ?_
          refine WQ.p rfl rfl rfl (P.move rfl) ?_
          refine WQ.off rfl rfl ?_
          refine WQ.off rfl rfl ?_
          refine WQ.off rfl rfl ?_
          refine WQ.p rfl rfl rfl (P.pickF rfl rfl) ?_
          refine WQ.p rfl rfl rfl (P.assign rfl) ?_
          refine WQ.nil_ ?_
          refine End.seq ?_
          refine WC.ret ?_
          refine End.ret1 rfl rfl ?_
          exact absurd hs67 (by simp)
      ·
        refine WQ.off rfl rfl ?_
        refine WQ.off rfl rfl ?_
        refine WQ.off rfl rfl ?_
        refine WQ.p rfl rfl rfl (P.pickF rfl rfl) ?_
        refine WQ.p rfl rfl rfl (P.move rfl) ?_
        refine WQ.off rfl rfl ?_
        refine WQ.off rfl rfl ?_
        refine WQ.off rfl rfl ?_
        refine WQ.p rfl rfl rfl (P.pickF rfl rfl) ?_
        refine WQ.p rfl rfl rfl (P.move rfl) ?_
        refine WQ.off rfl rfl ?_
        refine WQ.off rfl rfl ?_
        refine WQ.off rfl rfl ?_
        refine WQ.p rfl rfl rfl (P.pickF rfl rfl) ?_
        refine WQ.p rfl rfl rfl (P.move rfl) ?_
        refine WQ.off rfl rfl ?_
        refine WQ.off rfl rfl ?_
        refine WQ.off rfl rfl ?_
        refine WQ.p rfl rfl rfl (P.pickF rfl rfl) ?_
        refine WQ.p rfl rfl rfl (P.move rfl) ?_
        refine WQ.off rfl rfl ?_
        refine WQ.off rfl rfl ?_
        refine WQ.off rfl rfl ?_
        refine WQ.p rfl rfl rfl (P.pickF rfl rfl) ?_
        refine WQ.p rfl rfl rfl (P.assign rfl) ?_
        refine WQ.nil_ ?_
        refine End.seq ?_
        refine WC.ret ?_
        refine End.ret1 rfl rfl ?_
        exact absurd hs62 (by rw [genV_eq]; simp)

end Go.Proofs.YtlkkiimmangplaaGreatDoor
