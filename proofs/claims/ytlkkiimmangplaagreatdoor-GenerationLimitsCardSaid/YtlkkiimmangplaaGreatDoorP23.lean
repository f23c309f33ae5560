/- The law on other limits. -/
import Derived.Test.YtlkkiimmangplaaGreatDoorP22
namespace Go.Proofs.YtlkkiimmangplaaGreatDoor
open Go.RowKit
set_option linter.unusedVariables false
set_option linter.unusedSimpArgs false

theorem limP_bad {xs : List Int} {limit : Int} (h : limit < 1 ∨ 63 < limit) : limP true xs limit = .error 2 := by rw [limP, if_neg (by simp), if_pos h]
theorem limP_ok {xs : List Int} {limit : Int} (h : ¬ (limit < 1 ∨ 63 < limit)) : limP true xs limit = .ok (xs.take (mx0 ((xs.length : Int) - limit))) := by rw [limP, if_neg (by simp), if_neg h]

set_option maxRecDepth 100000 in
theorem limits_law (e : E) (va vg : Value) (A0 : Option Addr) (c0 : Nat) (xs : List Int) (limit : Int) (w : World) (hg : Good w) (ha : EntAt w e va vg) (hr : Sl encI 1 w A0 xs) (hc0 : xs.length ≤ c0) (hz : A0 = none → c0 = 0) (hlm : 0 ≤ limit ∧ limit < 256) :
    Calls Tryz.prog 10 #[.agg (e.cells va vg), .slice A0 xs.length c0, .int .u8 limit] w (RetV w (.bool true)) := by
  have ha0 := ha
  obtain ⟨⟨A1, c1, rfl, hc1, hr1⟩, ⟨A2, c2, rfl, hc2, hr2⟩⟩ := ha
  refine enter Tryz.func10 rfl Tryz.ntmps10 rfl ?_
  refine WC.seq ?_
  refine WC.region ?_
  refine WL.box rfl rfl rfl (fun b3 => ?_)
  refine WL.p rfl rfl rfl (P.assign rfl) ?_
  refine WL.nil_ ?_
  refine End.seq ?_
  refine WC.seq ?_
  refine WC.seq ?_
  refine WC.region ?_
  refine WL.callv (ent_of Tryz.func26 rfl rfl) rfl rfl rfl (fun w hs => awake_any w (hg.st hs)) ?_
  refine WL.p rfl rfl rfl (P.not_ rfl) ?_
  refine WL.nil_ ?_
  refine End.seq ?_
  refine WC.cond rfl (fun hc11 => ?_) (fun hc11 => ?_)
  ·
    refine WC.seq ?_
    refine WC.region ?_
    refine WL.p rfl rfl rfl (P.assign rfl) ?_
    refine WL.nil_ ?_
    refine End.seq ?_
    refine WC.ret ?_
    refine End.thenR ?_
    refine End.ret1 rfl rfl ?_
    exact absurd hc11 (by decide)
  ·
    refine WC.skip ?_
    refine End.seq ?_
    refine WC.seq ?_
    refine WC.seq ?_
    refine WC.region ?_
    refine WL.p rfl rfl rfl (P.loadW 0 Tryz.isAgg34 Tryz.sizeOf34 rfl rfl rfl) ?_
    refine WL.p rfl rfl rfl (P.move rfl) ?_
    refine WL.callv (ent_of Tryz.func29 rfl rfl) rfl rfl rfl (fun w hs => few_any e _ _ A0 none xs.length c0 0 0 w (ha0.st hs)) ?_
    refine WL.p rfl rfl rfl (P.not_ rfl) ?_
    refine WL.p rfl rfl rfl (P.move rfl) ?_
    refine WL.split 16 rfl (fun hs16 => ?_) (fun hs16 => ?_)
    ·
      refine WL.off rfl rfl ?_
      refine WL.off rfl rfl ?_
      refine WL.off rfl rfl ?_
      refine WL.off rfl rfl ?_
      refine WL.p rfl rfl rfl (P.pickT rfl rfl) ?_
      refine WL.nil_ ?_
      refine End.seq ?_
      refine WC.condT rfl ?_
      refine WC.seq ?_
      refine WC.region ?_
      refine WL.p rfl rfl rfl (P.assign rfl) ?_
      refine WL.nil_ ?_
      refine End.seq ?_
      refine WC.ret ?_
      refine End.thenR ?_
      refine End.ret1 rfl rfl ?_
      exact fun w' hs' => RetV.of rfl hs'
    ·
      refine WL.p rfl rfl rfl (P.loadW 0 Tryz.isAgg34 Tryz.sizeOf34 rfl rfl rfl) ?_
      refine WL.p rfl rfl rfl (P.move rfl) ?_
      refine WL.callv (ent_of Tryz.func35 rfl rfl) rfl rfl rfl (fun w hs => genValid_any e _ _ A0 c0 xs w (hg.st hs) (ha0.st hs) (hr.st hs)) ?_
      refine WL.p rfl rfl rfl (P.not_ rfl) ?_
      refine WL.p rfl rfl rfl (P.pickF rfl rfl) ?_
      refine WL.nil_ ?_
      refine End.seq ?_
      refine WC.cond rfl (fun hc21 => ?_) (fun hc21 => ?_)
      ·
        refine WC.seq ?_
        refine WC.region ?_
        refine WL.p rfl rfl rfl (P.assign rfl) ?_
        refine WL.nil_ ?_
        refine End.seq ?_
        refine WC.ret ?_
        refine End.thenR ?_
        refine End.ret1 rfl rfl ?_
        exact fun w' hs' => RetV.of rfl hs'
      ·
        have hf : fewG e xs.length 0 = true := by simpa using hs16
        have hf := fewG_of hf
        have hv : rgenV e xs = true := by rw [← genV_eq]; simpa using hc21
        refine WC.skip ?_
        refine End.seq ?_
        refine WC.seq ?_
        refine WC.region ?_
        refine WL.p rfl rfl rfl (P.loadW 0 Tryz.isAgg34 Tryz.sizeOf34 rfl rfl rfl) ?_
        refine WL.p rfl rfl rfl (P.move rfl) ?_
        refine WL.p rfl rfl rfl (P.move rfl) ?_
        refine WL.p rfl rfl rfl (P.conv (by kernel_rfl) Tryz.underlying3 rfl (wrap_i64 (by omega))) ?_
        refine WL.callx (ent_of Tryz.func42 rfl rfl) rfl rfl rfl (fun w hs => limitU e _ _ A0 c0 xs limit w (hg.st hs) (ha0.st hs) (hr.st hs) (by omega) hc0) (fun p hp => ?_)
        refine WL.p rfl rfl rfl (P.move rfl) ?_
        refine WL.p rfl rfl rfl (P.extract rfl rfl) ?_
        refine WL.p rfl rfl rfl (P.extract rfl rfl) ?_
        refine WL.p rfl rfl rfl (P.assign rfl) ?_
        refine WL.p rfl rfl rfl (P.assign rfl) ?_
        refine WL.nil_ ?_
        refine End.seq ?_
        refine WC.seq ?_
        refine WC.seq ?_
        refine WC.region ?_
        refine WL.p rfl rfl rfl (P.move rfl) ?_
        refine WL.p rfl rfl rfl (P.cmp rfl rfl rfl) ?_
        refine WL.p rfl rfl rfl (P.move rfl) ?_
        refine WL.split 32 rfl (fun hs32 => ?_) (fun hs32 => ?_)
        ·
          refine WL.off rfl rfl ?_
          refine WL.off rfl rfl ?_
          refine WL.p rfl rfl rfl (P.pickT rfl rfl) ?_
          refine WL.nil_ ?_
          refine End.seq ?_
          refine WC.condT rfl ?_
          refine WC.seq ?_
          refine WC.region ?_
          refine WL.p rfl rfl rfl (P.move rfl) ?_
          refine WL.p rfl rfl rfl (P.cmp rfl rfl rfl) ?_
          refine WL.p rfl rfl rfl (P.move rfl) ?_
          refine WL.split 38 rfl (fun hs38 => ?_) (fun hs38 => ?_)
          ·
            refine WL.p rfl rfl rfl (P.move rfl) ?_
            refine WL.p rfl rfl rfl (P.lenR Tryz.underlying22 rfl) ?_
            refine WL.p rfl rfl rfl (P.cmp rfl rfl rfl) ?_
            refine WL.p rfl rfl rfl (P.pickT rfl rfl) ?_
            refine WL.p rfl rfl rfl (P.assign rfl) ?_
            refine WL.nil_ ?_
            refine End.seq ?_
            refine WC.ret ?_
            refine End.thenR ?_
            refine End.ret1 rfl rfl ?_
            exact fun w' hs' => RetV.of (by rw [hv, limP_bad (.inl (of_decide_eq_true hs32))]; rfl) hs'
          ·
            refine WL.off rfl rfl ?_
            refine WL.off rfl rfl ?_
            refine WL.off rfl rfl ?_
            refine WL.p rfl rfl rfl (P.pickF rfl rfl) ?_
            refine WL.p rfl rfl rfl (P.assign rfl) ?_
            refine WL.nil_ ?_
            refine End.seq ?_
            refine WC.ret ?_
            refine End.thenR ?_
            refine End.ret1 rfl rfl ?_
            exact absurd hs38 (by rw [hv, limP_bad (.inl (of_decide_eq_true hs32))]; simp [rC])
        ·
          refine WL.p rfl rfl rfl (P.move rfl) ?_
          refine WL.p rfl rfl rfl (P.cmp rfl rfl rfl) ?_
          refine WL.p rfl rfl rfl (P.pickF rfl rfl) ?_
          refine WL.nil_ ?_
          refine End.seq ?_
          refine WC.cond rfl (fun hc35 => ?_) (fun hc35 => ?_)
          ·
            refine WC.seq ?_
            refine WC.region ?_
            refine WL.p rfl rfl rfl (P.move rfl) ?_
            refine WL.p rfl rfl rfl (P.cmp rfl rfl rfl) ?_
            refine WL.p rfl rfl rfl (P.move rfl) ?_
            refine WL.split 38 rfl (fun hs38 => ?_) (fun hs38 => ?_)
            ·
              refine WL.p rfl rfl rfl (P.move rfl) ?_
              refine WL.p rfl rfl rfl (P.lenR Tryz.underlying22 rfl) ?_
              refine WL.p rfl rfl rfl (P.cmp rfl rfl rfl) ?_
              refine WL.p rfl rfl rfl (P.pickT rfl rfl) ?_
              refine WL.p rfl rfl rfl (P.assign rfl) ?_
              refine WL.nil_ ?_
              refine End.seq ?_
              refine WC.ret ?_
              refine End.thenR ?_
              refine End.ret1 rfl rfl ?_
              exact fun w' hs' => RetV.of (by rw [hv, limP_bad (.inr (of_decide_eq_true hc35))]; rfl) hs'
            ·
              refine WL.off rfl rfl ?_
              refine WL.off rfl rfl ?_
              refine WL.off rfl rfl ?_
              refine WL.p rfl rfl rfl (P.pickF rfl rfl) ?_
              refine WL.p rfl rfl rfl (P.assign rfl) ?_
              refine WL.nil_ ?_
              refine End.seq ?_
              refine WC.ret ?_
              refine End.thenR ?_
              refine End.ret1 rfl rfl ?_
              exact absurd hs38 (by rw [hv, limP_bad (.inr (of_decide_eq_true hc35))]; simp [rC])
          ·
            have hlo : ¬ (limit < 1 ∨ 63 < limit) := by have h1 := of_decide_eq_false hs32; have h2 := of_decide_eq_false hc35; omega
            have hR : (limP (rgenV e xs) xs limit) = .ok (xs.take (mx0 ((xs.length : Int) - limit))) := by rw [hv]; exact limP_ok hlo
            have hgl : gL (limP (rgenV e xs) xs limit) = xs.take (mx0 ((xs.length : Int) - limit)) := by rw [hR]; rfl
            have hrc : rC (limP (rgenV e xs) xs limit) = 0 := by rw [hR]; rfl
            have hkk : (mx0 ((xs.length : Int) - limit)) ≤ xs.length := by unfold mx0; split <;> omega
            have hgn : (gL (limP (rgenV e xs) xs limit)).length = (mx0 ((xs.length : Int) - limit)) := by rw [hgl, List.length_take]; omega
            have hmn : (if (xs.length : Int) < ((gL (limP (rgenV e xs) xs limit)).length : Int) then (xs.length : Int) else ((gL (limP (rgenV e xs) xs limit)).length : Int)).toNat = (mx0 ((xs.length : Int) - limit)) := by split <;> omega
            have hm0 : 0 ≤ (if (xs.length : Int) < ((gL (limP (rgenV e xs) xs limit)).length : Int) then (xs.length : Int) else ((gL (limP (rgenV e xs) xs limit)).length : Int)) ∧ (if (xs.length : Int) < ((gL (limP (rgenV e xs) xs limit)).length : Int) then (xs.length : Int) else ((gL (limP (rgenV e xs) xs limit)).length : Int)) ≤ (xs.length : Int) := by split <;> omega
            refine WC.skip ?_
            refine End.seq ?_
            refine WC.seq ?_
            refine WC.region ?_
            refine WL.p rfl rfl rfl (P.move rfl) ?_
            refine WL.p rfl rfl rfl (P.move rfl) ?_
            refine WL.p rfl rfl rfl (P.lenR Tryz.underlying22 rfl) ?_
            refine WL.p rfl rfl rfl (P.move rfl) ?_
            refine WL.p rfl rfl rfl (P.lenR Tryz.underlying22 rfl) ?_
            refine WL.p rfl rfl rfl (P.min2 rfl rfl) ?_
            refine WL.p rfl rfl rfl (P.cutAny Tryz.underlying22 Tryz.sizeOf3 rfl rfl hm0.1 hm0.2) ?_
            rw [hmn]
            refine WL.p rfl rfl rfl (P.assign rfl) ?_
            refine WL.nil_ ?_
            refine End.seq ?_
            refine WC.seq ?_
            refine WC.region ?_
            refine WL.p rfl rfl rfl (P.move rfl) ?_
            refine WL.p rfl rfl rfl (P.cmp rfl rfl rfl) ?_
            refine WL.p rfl rfl rfl (P.move rfl) ?_
            refine WL.split 52 rfl (fun hs52 => ?_) (fun hs52 => ?_)
            ·
              refine WL.buildSlice rfl rfl rfl (fun w => run_buildSlice0 Tryz.underlying22 Tryz.sizeOf3 w) (fun b53 => ?_)
              refine WL.asRow 0 rfl rfl (by decide) ?_
              refine WL.p rfl rfl rfl (P.move rfl) ?_
              refine WL.extend 0 (l := 0) (m := (gL (limP (rgenV e xs) xs limit)).length) (xs := []) (news := ints (gL (limP (rgenV e xs) xs limit))) (all := ints (gL (limP (rgenV e xs) xs limit))) (lt := (gL (limP (rgenV e xs) xs limit)).length) el22 rfl rfl rfl rfl rfl (by simp [ints]) (fun w hs => (hp.1 _ _ (hs.sel [1] rfl)).src' hp.2) (ints_one _) rfl (by omega) (by simp only [maxLen]; omega) (by omega) (fun q1 cap1 hq1 => ?_)
              refine WL.p rfl rfl rfl (P.move rfl) ?_
              refine WL.extend 0 (l := (gL (limP (rgenV e xs) xs limit)).length) (m := xs.length - (mx0 ((xs.length : Int) - limit))) (xs := ints (gL (limP (rgenV e xs) xs limit))) (news := ints (xs.drop (mx0 ((xs.length : Int) - limit)))) (all := ints (gL (limP (rgenV e xs) xs limit) ++ xs.drop (mx0 ((xs.length : Int) - limit)))) (lt := (gL (limP (rgenV e xs) xs limit) ++ xs.drop (mx0 ((xs.length : Int) - limit))).length) el22 rfl rfl rfl rfl rfl (by simp [ints]) (fun w hs => by have h9 := ((hr.st hs).cut (mx0 ((xs.length : Int) - limit)) hc0).src' (c := c0 - (mx0 ((xs.length : Int) - limit))) (fun h => by unfold cutA at h; split at h; rw [hz h]; omega; cases A0; rw [hz rfl]; omega; cases h); rw [List.length_drop] at h9; exact h9) (ints_one _) (ints_app _ _) (by simp) (by simp only [maxLen]; omega) (by omega) (fun q2 cap2 hq2 => ?_)
              refine WL.p rfl rfl rfl (P.move rfl) ?_
              refine WL.callv (ent_of Tryz.func33 rfl rfl) rfl rfl rfl (fun w hs => refInts_any _ _ _ _ _ _ w (sl_item hs (j := 0) rfl (by simp; omega)) (hr.st hs)) ?_
              refine WL.p rfl rfl rfl (P.pickT rfl rfl) ?_
              refine WL.p rfl rfl rfl (P.move rfl) ?_
              refine WL.split 61 rfl (fun hs61 => ?_) (fun hs61 => ?_)
              ·
                refine WL.p rfl rfl rfl (P.move rfl) ?_
                refine WL.p rfl rfl rfl (P.lenR Tryz.underlying22 rfl) ?_
                refine WL.p rfl rfl rfl (P.move rfl) ?_
                refine WL.p rfl rfl rfl (P.lenR Tryz.underlying22 rfl) ?_
                refine WL.p rfl rfl rfl (P.move rfl) ?_
                refine WL.p rfl rfl rfl (P.conv (by kernel_rfl) Tryz.underlying3 rfl (wrap_i64 (by omega))) ?_
                refine WL.p rfl rfl rfl (P.min2 rfl rfl) ?_
                refine WL.p rfl rfl rfl (P.cmp rfl rfl rfl) ?_
                refine WL.p rfl rfl rfl (P.pickT rfl rfl) ?_
                refine WL.p rfl rfl rfl (P.assign rfl) ?_
                refine WL.nil_ ?_
                refine End.seq ?_
                refine WC.ret ?_
                refine End.ret1 rfl rfl ?_
                exact fun w' hs' => RetV.of (by congr 1; rw [beq_iff_eq]; unfold mx0; split <;> split <;> omega) hs'
              ·
                refine WL.off rfl rfl ?_
                refine WL.off rfl rfl ?_
                refine WL.off rfl rfl ?_
                refine WL.off rfl rfl ?_
                refine WL.off rfl rfl ?_
                refine WL.off rfl rfl ?_
                refine WL.off rfl rfl ?_
                refine WL.off rfl rfl ?_
                refine WL.p rfl rfl rfl (P.pickF rfl rfl) ?_
                refine WL.p rfl rfl rfl (P.assign rfl) ?_
                refine WL.nil_ ?_
                refine End.seq ?_
                refine WC.ret ?_
                refine End.ret1 rfl rfl ?_
                exact absurd hs61 (by rw [hgl]; simp)
            ·
              refine WL.off rfl rfl ?_
              refine WL.off rfl rfl ?_
              refine WL.off rfl rfl ?_
              refine WL.off rfl rfl ?_
              refine WL.off rfl rfl ?_
              refine WL.off rfl rfl ?_
              refine WL.off rfl rfl ?_
              refine WL.p rfl rfl rfl (P.pickF rfl rfl) ?_
              refine WL.p rfl rfl rfl (P.move rfl) ?_
              refine WL.off rfl rfl ?_
              refine WL.off rfl rfl ?_
              refine WL.off rfl rfl ?_
              refine WL.off rfl rfl ?_
              refine WL.off rfl rfl ?_
              refine WL.off rfl rfl ?_
              refine WL.off rfl rfl ?_
              refine WL.off rfl rfl ?_
              refine WL.p rfl rfl rfl (P.pickF rfl rfl) ?_
              refine WL.p rfl rfl rfl (P.assign rfl) ?_
              refine WL.nil_ ?_
              refine End.seq ?_
              refine WC.ret ?_
              refine End.ret1 rfl rfl ?_
              exact absurd hs52 (by rw [hrc]; simp)

end Go.Proofs.YtlkkiimmangplaaGreatDoor
