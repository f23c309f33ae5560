/- The law on several new generations. -/
import Derived.Test.YtlkkiimmangplaaGreatDoorL3
import Derived.Test.YtlkkiimmangplaaGreatDoorP14
namespace Go.Proofs.YtlkkiimmangplaaGreatDoor
open Go.RowKit
set_option linter.unusedVariables false
set_option linter.unusedSimpArgs false

/-- What several new generations give: the entry, what there is, the error. -/
def zE (r : Except Int (Int × List Int)) (e : E) : E := match r with | .error _ => E.zero | .ok (l, _) => { e with last := l }
def zV (r : Except Int (Int × List Int)) (v : Value) : Value := match r with | .error _ => vnil | .ok _ => v
def zL (r : Except Int (Int × List Int)) : List Int := match r with | .error _ => [] | .ok (_, n) => n
def zC (r : Except Int (Int × List Int)) : Int := match r with | .error c => c | .ok _ => 0
theorem zV_one {r : Except Int (Int × List Int)} {v : Value} (h : v.oneCell' = true) : (zV r v).oneCell' = true := by
  cases r with
  | error c => rfl
  | ok g => exact h
theorem zEnt {w : World} {e : E} {va vg : Value} (r : Except Int (Int × List Int)) (h : EntAt w e va vg) : EntAt w (zE r e) (zV r va) (zV r vg) := by
  cases r with
  | error c => exact entNil rfl rfl
  | ok g => exact ⟨h.alt, h.gr⟩
abbrev RollS (r : Except Int (Int × List Int)) (p : Option Addr × Nat × It × It) : Prop := (∀ B w', St B [p.2.2.1, p.2.2.2] w' → Sl encI 1 w' p.1 (zL r)) ∧ (zL r).length ≤ 1000 ∧ (zL r).length ≤ p.2.1
abbrev RollV (r : Except Int (Int × List Int)) (e : E) (va vg : Value) (p : Option Addr × Nat × It × It) : Value := .tuple #[.agg ((zE r e).cells (zV r va) (zV r vg)), .slice p.1 (zL r).length p.2.1, .int .i64 (zC r)]
theorem rollU (e : E) (va vg : Value) (A0 A9 : Option Addr) (c0 c9 : Nat) (xs ls : List Int) (w : World) (hg : Good w) (ha : EntAt w e va vg) (hr : Sl encI 1 w A0 xs) (hr9 : Sl encI 1 w A9 ls) (hx : xs.length ≤ 100) (hls : ls.length ≤ 100) :
    Calls Tryz.prog 30 #[.agg (e.cells va vg), .slice A0 xs.length c0, .slice A9 ls.length c9] w (Ret w (RollS (rrollP e xs ls)) (RollV (rrollP e xs ls) e va vg) (fun p => [p.2.2.1, p.2.2.2])) := by
  have hf := fold_eq e xs ls
  cases hP : foldP e xs ls with
  | error c =>
    rw [hP] at hf
    rw [← hf]
    refine (rollF_err e va vg A0 c0 xs A9 c9 ls c w hg ha hr hx hr9 hls hP).mono fun en w' h => ?_
    exact ⟨(none, 0, .nil, .nil), ⟨fun B w' hs => Sl.nil _ _ _, Nat.zero_le 1000, Nat.le_refl _⟩, h.1, h.2.nil.nil⟩
  | ok q =>
    obtain ⟨last, now, gone⟩ := q
    rw [hP] at hf
    rw [← hf]
    refine (rollF_ok e va vg A0 c0 xs A9 c9 ls last now gone w hg ha hr hx hr9 hls hP).mono fun en w' h => ?_
    obtain ⟨p, h1, h2, h3⟩ := h
    exact ⟨(p.1, p.2.1, _, _), ⟨h1.1, h1.2.2, h1.2.1⟩, h2, h3⟩
theorem rroll_len {e : E} : ∀ (ls : List Int) (s s' : Int × List Int), rroll e s ls = .ok s' → s'.2.length ≤ s.2.length + ls.length
  | [], s, s', h => by cases h; simp
  | n :: r, s, s', h => by
    unfold rroll at h
    cases hs : rstep e s n with
    | error c => rw [hs] at h; cases h
    | ok s1 =>
      rw [hs] at h
      have ih := rroll_len r s1 s' h
      have h1 : s1.2.length ≤ s.2.length + 1 := by
        unfold rstep at hs
        split at hs
        · cases hs
        · cases hs; simp
      simp only [List.length_cons]
      omega
theorem rrollP_len {e : E} {xs ls now : List Int} {last : Int} (h : rrollP e xs ls = .ok (last, now)) : now.length ≤ xs.length + ls.length := by
  unfold rrollP at h
  split at h
  · cases h
  · exact rroll_len ls _ _ h
abbrev RefS (r : Except Int (Int × List Int)) (p : Option Addr × Nat × It) : Prop := (∀ B w', St B [p.2.2] w' → Sl encI 1 w' p.1 (zL r))
theorem refRollU (e : E) (va vg : Value) (A0 A9 : Option Addr) (c0 c9 : Nat) (xs ls : List Int) (w : World) (ha : EntAt w e va vg) (hr : Sl encI 1 w A0 xs) (hr9 : Sl encI 1 w A9 ls) (hsz : e.name.size < 4294967281) (hx : xs.length ≤ 80) (hls : ls.length ≤ 20) (hc0 : xs.length ≤ c0) (hz : A0 = none → c0 = 0) :
    Calls Tryz.prog 31 #[.agg (e.cells va vg), .slice A0 xs.length c0, .slice A9 ls.length c9] w (Ret w (RefS (rrollP e xs ls)) (fun p => .tuple #[.agg ((zE (rrollP e xs ls) e).cells (zV (rrollP e xs ls) va) (zV (rrollP e xs ls) vg)), .slice p.1 (zL (rrollP e xs ls)).length p.2.1, .int .i64 (zC (rrollP e xs ls))]) (fun p => [p.2.2])) := by
  refine (refRoll_any e va vg A0 A9 c0 c9 xs ls w ha hr hr9 hsz hx hls hc0 hz).mono fun en w' h => ?_
  cases hR : rrollP e xs ls with
  | error c =>
    rw [hR] at h
    exact ⟨(none, 0, .nil), fun B w' hs => Sl.nil _ _ _, h.1, h.2.nil⟩
  | ok q =>
    obtain ⟨last, now⟩ := q
    rw [hR] at h
    obtain ⟨p, _, h2, h3⟩ := h
    have hlen := rrollP_len hR
    exact ⟨(some ⟨p.1, 0, none⟩, p.2, _), fun B w' hs => sl_item hs (j := 0) rfl (by show now.length ≤ 100000; omega), h2, h3⟩

set_option maxRecDepth 100000 in
theorem several_law (e : E) (va vg : Value) (A0 A9 : Option Addr) (c0 c9 : Nat) (xs ls : List Int) (w : World) (hg : Good w) (ha : EntAt w e va vg) (hr : Sl encI 1 w A0 xs) (hr9 : Sl encI 1 w A9 ls) (hc0 : xs.length ≤ c0) (hz : A0 = none → c0 = 0) :
    Calls Tryz.prog 4 #[.agg (e.cells va vg), .slice A0 xs.length c0, .slice A9 ls.length c9] w (RetV w (.bool true)) := by
  have ha0 := ha
  obtain ⟨⟨A1, c1, rfl, hc1, hr1⟩, ⟨A2, c2, rfl, hc2, hr2⟩⟩ := ha
  refine enter Tryz.func4 rfl Tryz.ntmps4 rfl ?_
  refine WC.seq ?_
  refine WC.region ?_
  refine WL.box rfl rfl rfl (fun b3 => ?_)
  refine WL.p rfl rfl rfl (P.assign rfl) ?_
  refine WL.nil_ ?_
  refine End.seq ?_
  refine WC.seq ?_
  refine WC.seq ?_
  refine WC.region ?_
  refine WL.callv (ent_of Tryz.func26 rfl rfl) rfl rfl rfl (fun w hs => awake_any w (hg.st hs)) ?_
  refine WL.p rfl rfl rfl (P.not_ rfl) ?_
  refine WL.nil_ ?_
  refine End.seq ?_
  refine WC.cond rfl (fun hc14 => ?_) (fun hc14 => ?_)
  ·
    refine WC.seq ?_
    refine WC.region ?_
    refine WL.p rfl rfl rfl (P.assign rfl) ?_
    refine WL.nil_ ?_
    refine End.seq ?_
    refine WC.ret ?_
    refine End.thenR ?_
    refine End.ret1 rfl rfl ?_
    exact absurd hc14 (by decide)
  ·
    refine WC.skip ?_
    refine End.seq ?_
    refine WC.seq ?_
    refine WC.seq ?_
    refine WC.region ?_
    refine WL.p rfl rfl rfl (P.loadW 0 Tryz.isAgg34 Tryz.sizeOf34 rfl rfl rfl) ?_
    refine WL.p rfl rfl rfl (P.move rfl) ?_
    refine WL.p rfl rfl rfl (P.move rfl) ?_
    refine WL.callv (ent_of Tryz.func29 rfl rfl) rfl rfl rfl (fun w hs => few_any e _ _ A0 A9 xs.length c0 ls.length c9 w (ha0.st hs)) ?_
    refine WL.p rfl rfl rfl (P.not_ rfl) ?_
    refine WL.nil_ ?_
    refine End.seq ?_
    refine WC.cond rfl (fun hc19 => ?_) (fun hc19 => ?_)
    ·
      refine WC.seq ?_
      refine WC.region ?_
      refine WL.p rfl rfl rfl (P.assign rfl) ?_
      refine WL.nil_ ?_
      refine End.seq ?_
      refine WC.ret ?_
      refine End.thenR ?_
      refine End.ret1 rfl rfl ?_
      exact fun w' hs' => RetV.of rfl hs'
    ·
      have hf := fewG_of (show fewG e xs.length ls.length = true by simpa using hc19)
      refine WC.skip ?_
      refine End.seq ?_
      refine WC.seq ?_
      refine WC.region ?_
      refine WL.p rfl rfl rfl (P.loadW 0 Tryz.isAgg34 Tryz.sizeOf34 rfl rfl rfl) ?_
      refine WL.p rfl rfl rfl (P.move rfl) ?_
      refine WL.p rfl rfl rfl (P.move rfl) ?_
      refine WL.callx (ent_of Tryz.func30 rfl rfl) rfl rfl rfl (fun w hs => rollU e _ _ A0 A9 c0 c9 xs ls w (hg.st hs) (ha0.st hs) (hr.st hs) (hr9.st hs) (by omega) (by omega)) (fun p hp => ?_)
      refine WL.p rfl rfl rfl (P.move rfl) ?_
      refine WL.p rfl rfl rfl (P.extract rfl rfl) ?_
      refine WL.p rfl rfl rfl (P.extract rfl rfl) ?_
      refine WL.p rfl rfl rfl (P.extract rfl rfl) ?_
      refine WL.alloc Tryz.zeroValue34 rfl rfl (fun b7 => ?_)
      refine WL.storeW 0 Tryz.sizeOf34 rfl rfl rfl (E.one _ (zV_one rfl) (zV_one rfl)) rfl rfl rfl ?_
      refine WL.p rfl rfl rfl (P.assign rfl) ?_
      refine WL.p rfl rfl rfl (P.assign rfl) ?_
      refine WL.nil_ ?_
      refine End.seq ?_
      refine WC.seq ?_
      refine WC.region ?_
      refine WL.p rfl rfl rfl (P.loadW 3 Tryz.isAgg34 Tryz.sizeOf34 rfl rfl rfl) ?_
      refine WL.p rfl rfl rfl (P.move rfl) ?_
      refine WL.p rfl rfl rfl (P.move rfl) ?_
      refine WL.callx (ent_of Tryz.func31 rfl rfl) rfl rfl rfl (fun w hs => refRollU e _ _ A0 A9 c0 c9 xs ls w (ha0.st hs) (hr.st hs) (hr9.st hs) (by omega) (by omega) (by omega) hc0 hz) (fun p2 hp2 => ?_)
      refine WL.p rfl rfl rfl (P.move rfl) ?_
      refine WL.p rfl rfl rfl (P.extract rfl rfl) ?_
      refine WL.p rfl rfl rfl (P.extract rfl rfl) ?_
      refine WL.p rfl rfl rfl (P.extract rfl rfl) ?_
      refine WL.alloc Tryz.zeroValue34 rfl rfl (fun b10 => ?_)
      refine WL.storeW 0 Tryz.sizeOf34 rfl rfl rfl (E.one _ (zV_one rfl) (zV_one rfl)) rfl rfl rfl ?_
      refine WL.p rfl rfl rfl (P.assign rfl) ?_
      refine WL.p rfl rfl rfl (P.assign rfl) ?_
      refine WL.nil_ ?_
      refine End.seq ?_
      refine WC.seq ?_
      refine WC.region ?_
      refine WL.p rfl rfl rfl (P.loadW 2 Tryz.isAgg34 Tryz.sizeOf34 rfl rfl rfl) ?_
      refine WL.p rfl rfl rfl (P.loadW 0 Tryz.isAgg34 Tryz.sizeOf34 rfl rfl rfl) ?_
      refine WL.callv (ent_of Tryz.func32 rfl rfl) rfl rfl rfl (fun w hs => refSame_any _ _ _ _ _ _ w (zEnt (rrollP e xs ls) (ha0.st hs)) (zEnt (rrollP e xs ls) (ha0.st hs))) ?_
      refine WL.p rfl rfl rfl (P.move rfl) ?_
      refine WL.split 39 rfl (fun hs39 => ?_) (fun hs39 => ?_)
      ·
        refine WL.p rfl rfl rfl (P.move rfl) ?_
        refine WL.p rfl rfl rfl (P.move rfl) ?_
        refine WL.callv (ent_of Tryz.func33 rfl rfl) rfl rfl rfl (fun w hs => refInts_any _ _ _ _ _ _ w (hp.1 _ _ (hs.sel [3, 4] rfl)) (hp2 _ _ (hs.sel [1] rfl))) ?_
        refine WL.p rfl rfl rfl (P.pickT rfl rfl) ?_
        refine WL.p rfl rfl rfl (P.move rfl) ?_
        refine WL.split 44 rfl (fun hs44 => ?_) (fun hs44 => ?_)
        ·
          refine WL.p rfl rfl rfl (P.move rfl) ?_
          refine WL.p rfl rfl rfl (P.move rfl) ?_
          refine WL.p rfl rfl rfl (P.cmp rfl rfl rfl) ?_
          refine WL.p rfl rfl rfl (P.pickT rfl rfl) ?_
          refine WL.p rfl rfl rfl (P.assign rfl) ?_
          refine WL.nil_ ?_
          refine End.seq ?_
          refine WC.ret ?_
          refine End.ret1 rfl rfl ?_
          exact fun w' hs' => RetV.of (by simp) hs'
        ·
          refine WL.off rfl rfl ?_
          refine WL.off rfl rfl ?_
          refine WL.off rfl rfl ?_
          refine WL.p rfl rfl rfl (P.pickF rfl rfl) ?_
          refine WL.p rfl rfl rfl (P.assign rfl) ?_
          refine WL.nil_ ?_
          refine End.seq ?_
          refine WC.ret ?_
          refine End.ret1 rfl rfl ?_
          exact absurd hs44 (by simp)
      ·
        refine WL.off rfl rfl ?_
        refine WL.off rfl rfl ?_
        refine WL.off rfl rfl ?_
        refine WL.p rfl rfl rfl (P.pickF rfl rfl) ?_
        refine WL.p rfl rfl rfl (P.move rfl) ?_
        refine WL.off rfl rfl ?_
        refine WL.off rfl rfl ?_
        refine WL.off rfl rfl ?_
        refine WL.p rfl rfl rfl (P.pickF rfl rfl) ?_
        refine WL.p rfl rfl rfl (P.assign rfl) ?_
        refine WL.nil_ ?_
        refine End.seq ?_
        refine WC.ret ?_
        refine End.ret1 rfl rfl ?_
        exact absurd hs39 (by simp)

end Go.Proofs.YtlkkiimmangplaaGreatDoor
