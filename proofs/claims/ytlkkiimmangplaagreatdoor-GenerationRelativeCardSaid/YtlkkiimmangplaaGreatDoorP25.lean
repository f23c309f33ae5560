/- The law on relative numbers. -/
import Derived.Test.YtlkkiimmangplaaGreatDoorP24
namespace Go.Proofs.YtlkkiimmangplaaGreatDoor
open Go.RowKit
set_option linter.unusedVariables false
set_option linter.unusedSimpArgs false

theorem absP_down {last rel : Int} {xs : List Int} (h0 : 0 ≤ last) (h1 : last ≤ 9999) (hf : fits xs last = true) (h2 : rel ≤ 0) (h3 : -(xs.length : Int) < rel) : absP last xs rel = (xs.getD ((xs.length : Int) - 1 + rel).toNat 0, 0) := by
  unfold absP
  rw [if_neg (by rw [hf]; simp; omega), if_neg (by omega), if_neg (by omega)]
theorem absP_none {last rel : Int} {xs : List Int} (h0 : 0 ≤ last) (h1 : last ≤ 9999) (hf : fits xs last = true) (h2 : rel ≤ 0) (h3 : rel ≤ -(xs.length : Int)) : absP last xs rel = (0, 6) := by
  unfold absP
  rw [if_neg (by rw [hf]; simp; omega), if_neg (by omega), if_pos (by omega)]
theorem absP_over {last rel : Int} {xs : List Int} (h0 : 0 ≤ last) (h1 : last ≤ 9999) (hf : fits xs last = true) (h2 : 0 < rel) (h3 : 9999 - last < rel) : absP last xs rel = (0, 8) := by
  unfold absP
  rw [if_neg (by rw [hf]; simp; omega), if_pos h2, if_pos h3]
theorem absP_up {last rel : Int} {xs : List Int} (h0 : 0 ≤ last) (h1 : last ≤ 9999) (hf : fits xs last = true) (h2 : 0 < rel) (h3 : ¬ 9999 - last < rel) : absP last xs rel = (last + rel, 0) := by
  unfold absP
  rw [if_neg (by rw [hf]; simp; omega), if_pos h2, if_neg h3]
theorem rgenV_fits {e : E} {xs : List Int} (h : rgenV e xs = true) : fits xs e.last = true := by
  unfold rgenV at h
  simp only [Bool.and_eq_true] at h
  exact h.2.2
theorem roll1_ok {e : E} {xs : List Int} {n : Int} (hv : rgenV e xs = true) (h1 : e.last < n) (h2 : n ≤ 9999) : ∃ m, m ≤ xs.length ∧ rrollP e xs [n] = .ok (n, xs.drop m ++ [n]) ∧ rgenV { e with last := n } (xs.drop m ++ [n]) = true := by
  have hl := rgenV_lim hv
  rcases roll1 e xs n with ⟨c, h3, _⟩ | ⟨m, hm, _, h3, _, h4, _⟩
  · rw [rin, if_neg (by rw [hv]; simp), if_neg (by omega), if_neg (by omega)] at h3
    cases h3
  · exact ⟨m, hm, h3, h4⟩

set_option maxRecDepth 100000 in
theorem relative_law (e : E) (va vg : Value) (A0 : Option Addr) (c0 : Nat) (xs : List Int) (k : Int) (w : World) (hg : Good w) (ha : EntAt w e va vg) (hr : Sl encI 1 w A0 xs) (hc0 : xs.length ≤ c0) (hz : A0 = none → c0 = 0) (hk : 0 ≤ k ∧ k < 256) :
    Calls Tryz.prog 7 #[.agg (e.cells va vg), .slice A0 xs.length c0, .int .u8 k] w (RetV w (.bool true)) := by
  have ha0 := ha
  obtain ⟨⟨A1, c1, rfl, hc1, hr1⟩, ⟨A2, c2, rfl, hc2, hr2⟩⟩ := ha
  refine enter Tryz.func7 rfl Tryz.ntmps7 rfl ?_
  refine WC.seq ?_
  refine WC.region ?_
  refine WL.box rfl rfl rfl (fun b3 => ?_)
  refine WL.p rfl rfl rfl (P.assign rfl) ?_
  refine WL.nil_ ?_
  refine End.seq ?_
  refine WC.seq ?_
  refine WC.seq ?_
  refine WC.region ?_
  refine WL.callv (ent_of Tryz.func26 rfl rfl) rfl rfl rfl (fun w hs => awake_any w (hg.st hs)) ?_
  refine WL.p rfl rfl rfl (P.not_ rfl) ?_
  refine WL.nil_ ?_
  refine End.seq ?_
  refine WC.cond rfl (fun hc21 => ?_) (fun hc21 => ?_)
  ·
    refine WC.seq ?_
    refine WC.region ?_
    refine WL.p rfl rfl rfl (P.assign rfl) ?_
    refine WL.nil_ ?_
    refine End.seq ?_
    refine WC.ret ?_
    refine End.thenR ?_
    refine End.ret1 rfl rfl ?_
    exact absurd hc21 (by decide)
  ·
    refine WC.skip ?_
    refine End.seq ?_
    refine WC.seq ?_
    refine WC.seq ?_
    refine WC.region ?_
    refine WL.p rfl rfl rfl (P.loadW 0 Tryz.isAgg34 Tryz.sizeOf34 rfl rfl rfl) ?_
    refine WL.p rfl rfl rfl (P.move rfl) ?_
    refine WL.callv (ent_of Tryz.func29 rfl rfl) rfl rfl rfl (fun w hs => few_any e _ _ A0 none xs.length c0 0 0 w (ha0.st hs)) ?_
    refine WL.p rfl rfl rfl (P.not_ rfl) ?_
    refine WL.p rfl rfl rfl (P.move rfl) ?_
    refine WL.split 26 rfl (fun hs26 => ?_) (fun hs26 => ?_)
    ·
      refine WL.off rfl rfl ?_
      refine WL.off rfl rfl ?_
      refine WL.off rfl rfl ?_
      refine WL.off rfl rfl ?_
      refine WL.p rfl rfl rfl (P.pickT rfl rfl) ?_
      refine WL.nil_ ?_
      refine End.seq ?_
      refine WC.condT rfl ?_
      refine WC.seq ?_
      refine WC.region ?_
      refine WL.p rfl rfl rfl (P.assign rfl) ?_
      refine WL.nil_ ?_
      refine End.seq ?_
      refine WC.ret ?_
      refine End.thenR ?_
      refine End.ret1 rfl rfl ?_
      exact fun w' hs' => RetV.of rfl hs'
    ·
      refine WL.p rfl rfl rfl (P.loadW 0 Tryz.isAgg34 Tryz.sizeOf34 rfl rfl rfl) ?_
      refine WL.p rfl rfl rfl (P.move rfl) ?_
      refine WL.callv (ent_of Tryz.func35 rfl rfl) rfl rfl rfl (fun w hs => genValid_any e _ _ A0 c0 xs w (hg.st hs) (ha0.st hs) (hr.st hs)) ?_
      refine WL.p rfl rfl rfl (P.not_ rfl) ?_
      refine WL.p rfl rfl rfl (P.pickF rfl rfl) ?_
      refine WL.nil_ ?_
      refine End.seq ?_
      refine WC.cond rfl (fun hc31 => ?_) (fun hc31 => ?_)
      ·
        refine WC.seq ?_
        refine WC.region ?_
        refine WL.p rfl rfl rfl (P.assign rfl) ?_
        refine WL.nil_ ?_
        refine End.seq ?_
        refine WC.ret ?_
        refine End.thenR ?_
        refine End.ret1 rfl rfl ?_
        exact fun w' hs' => RetV.of rfl hs'
      ·
        have hf : fewG e xs.length 0 = true := by simpa using hs26
        have hf := fewG_of hf
        have hv : rgenV e xs = true := by rw [← genV_eq]; simpa using hc31
        have hlo := rgenV_lim hv
        have hfi := rgenV_fits hv
        refine WC.skip ?_
        refine End.seq ?_
        refine WC.seq ?_
        refine WC.region ?_
        refine WL.p rfl rfl rfl (P.fieldAddr fa_34_1 rfl) ?_
        refine WL.p rfl rfl rfl (P.loadO 0 Tryz.isAgg9 rfl rfl rfl) ?_
        refine WL.p rfl rfl rfl (P.fieldAddr fa_34_6 rfl) ?_
        refine WL.p rfl rfl rfl (P.loadO 0 Tryz.isAgg3 rfl rfl rfl) ?_
        refine WL.p rfl rfl rfl (P.move rfl) ?_
        refine WL.p rfl rfl rfl (P.build rfl (fun w => bo_24 Tryz.zeroValue24 (cs := #[_, _, _]) rfl rfl w)) ?_
        refine WL.alloc Tryz.zeroValue24 rfl rfl (fun b7 => ?_)
        refine WL.storeW 0 Tryz.sizeOf24 rfl rfl rfl rfl rfl rfl rfl ?_
        refine WL.nil_ ?_
        refine End.seq ?_
        refine WC.seq ?_
        refine WC.seq ?_
        refine WC.region ?_
        refine WL.p rfl rfl rfl (P.move rfl) ?_
        refine WL.p rfl rfl rfl (P.lenR Tryz.underlying22 rfl) ?_
        refine WL.p rfl rfl rfl (P.move rfl) ?_
        refine WL.nil_ ?_
        refine End.seq ?_
        refine WC.block ?_
        refine WC.loopD (σ := Nat) (fun i => [(40, .int .i64 (i : Nat))]) (fun i => _) (fun i => i ≤ xs.length) (fun i => xs.length - i) 0 (Nat.zero_le _) (Env.sub_cons rfl (Env.sub_nil)) [0, 1] rfl rfl ?_
        rintro i hi
        refine WC.seq ?_
        refine WC.region ?_
        refine WL.p rfl rfl rfl (P.cmp rfl rfl rfl) ?_
        refine WL.nil_ ?_
        refine End.seq ?_
        refine WC.seq ?_
        refine WC.cond rfl (fun hc41 => ?_) (fun hc41 => ?_)
        ·
          have hil : i < xs.length := by have := of_decide_eq_true hc41; omega
          obtain ⟨b, off, rfl, hcx⟩ := hr.at_ (by omega)
          obtain ⟨x, hx⟩ := get_of_lt (xs := xs) (k := i) hil
          have hab : absP e.last xs ((i : Int) + 1 - (xs.length : Int)) = (x, 0) := by rw [absP_down hlo.2.1 hlo.2.2 hfi (by omega) (by omega), show ((xs.length : Int) - 1 + ((i : Int) + 1 - (xs.length : Int))).toNat = i by omega, List.getD, hx]; rfl
          refine WC.skip ?_
          refine End.seq ?_
          refine WC.seq ?_
          refine WC.block ?_
          refine WC.seq ?_
          refine WC.region ?_
          refine WL.p rfl rfl rfl (P.move rfl) ?_
          refine WL.p rfl rfl rfl (P.assign rfl) ?_
          refine WL.nil_ ?_
          refine End.seq ?_
          refine WC.seq ?_
          refine WC.region ?_
          refine WL.p rfl rfl rfl (P.loadW 0 Tryz.isAgg24 Tryz.sizeOf24 rfl rfl rfl) ?_
          refine WL.p rfl rfl rfl (P.move rfl) ?_
          refine WL.p rfl rfl rfl (P.ari64 rfl rfl rfl (by omega)) ?_
          refine WL.p rfl rfl rfl (P.move rfl) ?_
          refine WL.p rfl rfl rfl (P.lenR Tryz.underlying22 rfl) ?_
          refine WL.p rfl rfl rfl (P.ari64 rfl rfl rfl (by omega)) ?_
          refine WL.callv (ent_of Tryz.func27 rfl rfl) rfl rfl rfl (fun w hs => absolute_any e.name e.last _ c0 xs ((i : Int) + 1 - (xs.length : Int)) w (hr.st hs) (by omega)) ?_
          refine WL.p rfl rfl rfl (P.move rfl) ?_
          refine WL.p rfl rfl rfl (P.extract rfl rfl) ?_
          refine WL.p rfl rfl rfl (P.extract rfl rfl) ?_
          refine WL.p rfl rfl rfl (P.assign rfl) ?_
          refine WL.p rfl rfl rfl (P.assign rfl) ?_
          refine WL.nil_ ?_
          refine End.seq ?_
          refine WC.seq ?_
          refine WC.region ?_
          refine WL.p rfl rfl rfl (P.move rfl) ?_
          refine WL.p rfl rfl rfl (P.cmp rfl rfl rfl) ?_
          refine WL.p rfl rfl rfl (P.move rfl) ?_
          refine WL.split 55 rfl (fun hs55 => ?_) (fun hs55 => ?_)
          ·
            refine WL.off rfl rfl ?_
            refine WL.off rfl rfl ?_
            refine WL.off rfl rfl ?_
            refine WL.off rfl rfl ?_
            refine WL.off rfl rfl ?_
            refine WL.off rfl rfl ?_
            refine WL.p rfl rfl rfl (P.pickT rfl rfl) ?_
            refine WL.nil_ ?_
            refine End.seq ?_
            refine WC.condT rfl ?_
            refine WC.seq ?_
            refine WC.region ?_
            refine WL.p rfl rfl rfl (P.assign rfl) ?_
            refine WL.nil_ ?_
            refine End.seq ?_
            refine WC.ret ?_
            refine End.blkR ?_
            refine End.thenR ?_
            refine End.thenR ?_
            refine End.blkR ?_
            refine End.thenR ?_
            refine End.ret1 rfl rfl ?_
            exact absurd hs55 (by rw [hab]; simp)
          ·
            refine WL.p rfl rfl rfl (P.move rfl) ?_
            refine WL.p rfl rfl rfl (P.move rfl) ?_
            refine WL.p rfl rfl rfl (P.move rfl) ?_
            refine WL.p rfl rfl rfl (P.elemAddr Tryz.underlying22 Tryz.sizeOf3 rfl rfl (by omega) (by omega)) ?_
            refine WL.p rfl rfl rfl (P.loadB Tryz.isAgg3 rfl (hcx i x hx 0 _ rfl)) ?_
            refine WL.p rfl rfl rfl (P.cmp rfl rfl rfl) ?_
            refine WL.p rfl rfl rfl (P.pickF rfl rfl) ?_
            refine WL.nil_ ?_
            refine End.seq ?_
            refine WC.cond rfl (fun hc62 => ?_) (fun hc62 => ?_)
            ·
              refine WC.seq ?_
              refine WC.region ?_
              refine WL.p rfl rfl rfl (P.assign rfl) ?_
              refine WL.nil_ ?_
              refine End.seq ?_
              refine WC.ret ?_
              refine End.blkR ?_
              refine End.thenR ?_
              refine End.thenR ?_
              refine End.blkR ?_
              refine End.thenR ?_
              refine End.ret1 rfl rfl ?_
              exact absurd hc62 (by rw [hab]; simp)
            ·
              refine WC.skip ?_
              refine End.blkN ?_
              refine End.seq ?_
              refine WC.region ?_
              refine WL.p rfl rfl rfl (P.ari64 rfl rfl rfl (by omega)) ?_
              refine WL.p rfl rfl rfl (P.move rfl) ?_
              refine WL.nil_ ?_
              refine End.againD (i + 1) ?_ ?_ rfl (Env.sub_cons rfl (Env.sub_nil)) rfl [0, 1] rfl rfl
              · exact (by omega : i + 1 ≤ xs.length)
              · omega
        ·
          refine WC.exit ?_
          refine End.thenX ?_
          refine End.thenX ?_
          refine End.blkX ?_
          refine End.seq ?_
          refine WC.seq ?_
          refine WC.seq ?_
          refine WC.region ?_
          have habn : absP e.last xs (-(xs.length : Int) - k) = (0, 6) := absP_none hlo.2.1 hlo.2.2 hfi (by omega) (by omega)
          refine WL.p rfl rfl rfl (P.loadW 0 Tryz.isAgg24 Tryz.sizeOf24 rfl rfl rfl) ?_
          refine WL.p rfl rfl rfl (P.move rfl) ?_
          refine WL.p rfl rfl rfl (P.lenR Tryz.underlying22 rfl) ?_
          refine WL.p rfl rfl rfl (P.neg rfl (by omega)) ?_
          refine WL.p rfl rfl rfl (P.move rfl) ?_
          refine WL.p rfl rfl rfl (P.conv (by kernel_rfl) Tryz.underlying3 rfl (wrap_i64 (by omega))) ?_
          refine WL.p rfl rfl rfl (P.ari64 rfl rfl rfl (by omega)) ?_
          refine WL.callv (ent_of Tryz.func27 rfl rfl) rfl rfl rfl (fun w hs => absolute_any e.name e.last _ c0 xs (-(xs.length : Int) - k) w (hr.st hs) (by omega)) ?_
          refine WL.p rfl rfl rfl (P.move rfl) ?_
          refine WL.p rfl rfl rfl (P.extract rfl rfl) ?_
          refine WL.p rfl rfl rfl (P.extract rfl rfl) ?_
          refine WL.p rfl rfl rfl (P.assign rfl) ?_
          refine WL.p rfl rfl rfl (P.assign rfl) ?_
          refine WL.nil_ ?_
          refine End.seq ?_
          refine WC.seq ?_
          refine WC.region ?_
          refine WL.p rfl rfl rfl (P.move rfl) ?_
          refine WL.p rfl rfl rfl (P.cmp rfl rfl rfl) ?_
          refine WL.p rfl rfl rfl (P.move rfl) ?_
          refine WL.split 77 rfl (fun hs77 => ?_) (fun hs77 => ?_)
          ·
            refine WL.off rfl rfl ?_
            refine WL.off rfl rfl ?_
            refine WL.p rfl rfl rfl (P.pickT rfl rfl) ?_
            refine WL.nil_ ?_
            refine End.seq ?_
            refine WC.condT rfl ?_
            refine WC.seq ?_
            refine WC.region ?_
            refine WL.p rfl rfl rfl (P.assign rfl) ?_
            refine WL.nil_ ?_
            refine End.seq ?_
            refine WC.ret ?_
            refine End.thenR ?_
            refine End.ret1 rfl rfl ?_
            exact absurd hs77 (by rw [habn]; simp)
          ·
            refine WL.p rfl rfl rfl (P.move rfl) ?_
            refine WL.p rfl rfl rfl (P.cmp rfl rfl rfl) ?_
            refine WL.p rfl rfl rfl (P.pickF rfl rfl) ?_
            refine WL.nil_ ?_
            refine End.seq ?_
            refine WC.cond rfl (fun hc80 => ?_) (fun hc80 => ?_)
            ·
              refine WC.seq ?_
              refine WC.region ?_
              refine WL.p rfl rfl rfl (P.assign rfl) ?_
              refine WL.nil_ ?_
              refine End.seq ?_
              refine WC.ret ?_
              refine End.thenR ?_
              refine End.ret1 rfl rfl ?_
              exact absurd hc80 (by rw [habn]; simp)
            ·
              refine WC.skip ?_
              refine End.seq ?_
              refine WC.seq ?_
              refine WC.region ?_
              refine WL.p rfl rfl rfl (P.loadW 0 Tryz.isAgg24 Tryz.sizeOf24 rfl rfl rfl) ?_
              refine WL.p rfl rfl rfl (P.move rfl) ?_
              refine WL.p rfl rfl rfl (P.conv (by kernel_rfl) Tryz.underlying3 rfl (wrap_i64 (by omega))) ?_
              refine WL.p rfl rfl rfl (P.ari64 rfl rfl rfl (by omega)) ?_
              refine WL.callv (ent_of Tryz.func27 rfl rfl) rfl rfl rfl (fun w hs => absolute_any e.name e.last _ c0 xs (1 + k) w (hr.st hs) (by omega)) ?_
              refine WL.p rfl rfl rfl (P.move rfl) ?_
              refine WL.p rfl rfl rfl (P.extract rfl rfl) ?_
              refine WL.p rfl rfl rfl (P.extract rfl rfl) ?_
              refine WL.p rfl rfl rfl (P.assign rfl) ?_
              refine WL.p rfl rfl rfl (P.assign rfl) ?_
              refine WL.nil_ ?_
              refine End.seq ?_
              refine WC.seq ?_
              refine WC.seq ?_
              refine WC.region ?_
              refine WL.p rfl rfl rfl (P.fieldAddr fa_34_6 rfl) ?_
              refine WL.p rfl rfl rfl (P.loadO 1 Tryz.isAgg3 rfl rfl rfl) ?_
              refine WL.p rfl rfl rfl (P.ari64 rfl rfl rfl (by omega)) ?_
              refine WL.p rfl rfl rfl (P.move rfl) ?_
              refine WL.p rfl rfl rfl (P.conv (by kernel_rfl) Tryz.underlying3 rfl (wrap_i64 (by omega))) ?_
              refine WL.p rfl rfl rfl (P.ari64 rfl rfl rfl (by omega)) ?_
              refine WL.p rfl rfl rfl (P.cmp rfl rfl rfl) ?_
              refine WL.nil_ ?_
              refine End.seq ?_
              refine WC.cond rfl (fun hc95 => ?_) (fun hc95 => ?_)
              ·
                have hab2 : absP e.last xs (1 + k) = (0, 8) := absP_over hlo.2.1 hlo.2.2 hfi (by omega) (by have := of_decide_eq_true hc95; omega)
                refine WC.seq ?_
                refine WC.region ?_
                refine WL.p rfl rfl rfl (P.move rfl) ?_
                refine WL.p rfl rfl rfl (P.cmp rfl rfl rfl) ?_
                refine WL.p rfl rfl rfl (P.move rfl) ?_
                refine WL.split 98 rfl (fun hs98 => ?_) (fun hs98 => ?_)
                ·
                  refine WL.p rfl rfl rfl (P.move rfl) ?_
                  refine WL.p rfl rfl rfl (P.cmp rfl rfl rfl) ?_
                  refine WL.p rfl rfl rfl (P.pickT rfl rfl) ?_
                  refine WL.p rfl rfl rfl (P.assign rfl) ?_
                  refine WL.nil_ ?_
                  refine End.seq ?_
                  refine WC.ret ?_
                  refine End.thenR ?_
                  refine End.ret1 rfl rfl ?_
                  exact fun w' hs' => RetV.of (by rw [hab2]; rfl) hs'
                ·
                  refine WL.off rfl rfl ?_
                  refine WL.off rfl rfl ?_
                  refine WL.p rfl rfl rfl (P.pickF rfl rfl) ?_
                  refine WL.p rfl rfl rfl (P.assign rfl) ?_
                  refine WL.nil_ ?_
                  refine End.seq ?_
                  refine WC.ret ?_
                  refine End.thenR ?_
                  refine End.ret1 rfl rfl ?_
                  exact absurd hs98 (by rw [hab2]; simp)
              ·
                have hab3 : absP e.last xs (1 + k) = (e.last + (1 + k), 0) := absP_up hlo.2.1 hlo.2.2 hfi (by omega) (by have := of_decide_eq_false hc95; omega)
                have hlt95 := of_decide_eq_false hc95
                have hN : (absP e.last xs (1 + k)).1 = e.last + (1 + k) := by rw [hab3]
                obtain ⟨m, hm, h2, hv2⟩ := roll1_ok (n := (absP e.last xs (1 + k)).1) hv (by omega) (by omega)
                have hzl : zL (rrollP e xs [(absP e.last xs (1 + k)).1]) = xs.drop m ++ [(absP e.last xs (1 + k)).1] := by rw [h2]; rfl
                have hze : (zE (rrollP e xs [(absP e.last xs (1 + k)).1]) e).last = (absP e.last xs (1 + k)).1 := by rw [h2]; rfl
                have hzc : zC (rrollP e xs [(absP e.last xs (1 + k)).1]) = 0 := by rw [h2]; rfl
                have hab4 : absP (zE (rrollP e xs [(absP e.last xs (1 + k)).1]) e).last (zL (rrollP e xs [(absP e.last xs (1 + k)).1])) 0 = ((absP e.last xs (1 + k)).1, 0) := by rw [hze, hzl, absP_down (last := (absP e.last xs (1 + k)).1) (by omega) (by omega) (rgenV_fits hv2) (by omega) (by simp)]; rw [show (((xs.drop m ++ [(absP e.last xs (1 + k)).1]).length : Int) - 1 + 0).toNat = (xs.drop m).length by simp]; simp
                refine WC.skip ?_
                refine End.seq ?_
                refine WC.seq ?_
                refine WC.region ?_
                refine WL.p rfl rfl rfl (P.loadW 1 Tryz.isAgg34 Tryz.sizeOf34 rfl rfl rfl) ?_
                refine WL.p rfl rfl rfl (P.move rfl) ?_
                refine WL.p rfl rfl rfl (P.move rfl) ?_
                refine WL.row Tryz.underlying22 Tryz.sizeOf3 Tryz.zeroValue3 rfl rfl rfl rfl rfl rfl rfl rfl rfl (fun b106 => ?_)
                refine WL.callx (ent_of Tryz.func30 rfl rfl) rfl rfl rfl (fun w hs => rollU e _ _ A0 (some ⟨b106, 0, none⟩) c0 1 xs [(absP e.last xs (1 + k)).1] w (hg.st hs) (ha0.st hs) (hr.st hs) (slI_row hs (j := 0) (xs := [(absP e.last xs (1 + k)).1]) rfl rfl (by simp)) (by omega) (by simp)) (fun p2 hp2 => ?_)
                refine WL.p rfl rfl rfl (P.move rfl) ?_
                refine WL.p rfl rfl rfl (P.extract rfl rfl) ?_
                refine WL.p rfl rfl rfl (P.extract rfl rfl) ?_
                refine WL.p rfl rfl rfl (P.extract rfl rfl) ?_
                refine WL.alloc Tryz.zeroValue34 rfl rfl (fun b15 => ?_)
                refine WL.storeW 0 Tryz.sizeOf34 rfl rfl rfl (E.one _ (zV_one rfl) (zV_one rfl)) rfl rfl rfl ?_
                refine WL.p rfl rfl rfl (P.assign rfl) ?_
                refine WL.p rfl rfl rfl (P.assign rfl) ?_
                refine WL.nil_ ?_
                refine End.seq ?_
                refine WC.seq ?_
                refine WC.region ?_
                refine WL.p rfl rfl rfl (P.fieldAddr fa_34_6 rfl) ?_
                refine WL.p rfl rfl rfl (P.loadO 0 Tryz.isAgg3 rfl rfl rfl) ?_
                refine WL.p rfl rfl rfl (P.move rfl) ?_
                refine WL.p rfl rfl rfl (P.build rfl (fun w => bo_24 Tryz.zeroValue24 (cs := #[_, _, _]) rfl rfl w)) ?_
                refine WL.callv (ent_of Tryz.func27 rfl rfl) rfl rfl rfl (fun w hs => absolute_any ⟨#[]⟩ (zE (rrollP e xs [(absP e.last xs (1 + k)).1]) e).last p2.1 p2.2.1 (zL (rrollP e xs [(absP e.last xs (1 + k)).1])) 0 w (hp2.1 _ _ (hs.sel [1, 2] rfl)) (by omega)) ?_
                refine WL.p rfl rfl rfl (P.move rfl) ?_
                refine WL.p rfl rfl rfl (P.extract rfl rfl) ?_
                refine WL.p rfl rfl rfl (P.extract rfl rfl) ?_
                refine WL.p rfl rfl rfl (P.assign rfl) ?_
                refine WL.p rfl rfl rfl (P.assign rfl) ?_
                refine WL.nil_ ?_
                refine End.seq ?_
                refine WC.seq ?_
                refine WC.region ?_
                refine WL.p rfl rfl rfl (P.move rfl) ?_
                refine WL.p rfl rfl rfl (P.cmp rfl rfl rfl) ?_
                refine WL.p rfl rfl rfl (P.move rfl) ?_
                refine WL.split 121 rfl (fun hs121 => ?_) (fun hs121 => ?_)
                ·
                  refine WL.p rfl rfl rfl (P.move rfl) ?_
                  refine WL.p rfl rfl rfl (P.fieldAddr fa_34_6 rfl) ?_
                  refine WL.p rfl rfl rfl (P.loadO 5 Tryz.isAgg3 rfl rfl rfl) ?_
                  refine WL.p rfl rfl rfl (P.ari64 rfl rfl rfl (by omega)) ?_
                  refine WL.p rfl rfl rfl (P.move rfl) ?_
                  refine WL.p rfl rfl rfl (P.conv (by kernel_rfl) Tryz.underlying3 rfl (wrap_i64 (by omega))) ?_
                  refine WL.p rfl rfl rfl (P.ari64 rfl rfl rfl (by omega)) ?_
                  refine WL.p rfl rfl rfl (P.cmp rfl rfl rfl) ?_
                  refine WL.p rfl rfl rfl (P.pickT rfl rfl) ?_
                  refine WL.p rfl rfl rfl (P.move rfl) ?_
                  refine WL.split 131 rfl (fun hs131 => ?_) (fun hs131 => ?_)
                  ·
                    refine WL.p rfl rfl rfl (P.move rfl) ?_
                    refine WL.p rfl rfl rfl (P.cmp rfl rfl rfl) ?_
                    refine WL.p rfl rfl rfl (P.pickT rfl rfl) ?_
                    refine WL.p rfl rfl rfl (P.move rfl) ?_
                    refine WL.split 135 rfl (fun hs135 => ?_) (fun hs135 => ?_)
                    ·
                      refine WL.p rfl rfl rfl (P.move rfl) ?_
                      refine WL.p rfl rfl rfl (P.cmp rfl rfl rfl) ?_
                      refine WL.p rfl rfl rfl (P.pickT rfl rfl) ?_
                      refine WL.p rfl rfl rfl (P.move rfl) ?_
                      refine WL.split 139 rfl (fun hs139 => ?_) (fun hs139 => ?_)
                      ·
                        refine WL.p rfl rfl rfl (P.move rfl) ?_
                        refine WL.p rfl rfl rfl (P.move rfl) ?_
                        refine WL.p rfl rfl rfl (P.cmp rfl rfl rfl) ?_
                        refine WL.p rfl rfl rfl (P.pickT rfl rfl) ?_
                        refine WL.p rfl rfl rfl (P.assign rfl) ?_
                        refine WL.nil_ ?_
                        refine End.seq ?_
                        refine WC.ret ?_
                        refine End.ret1 rfl rfl ?_
                        exact fun w' hs' => RetV.of (by rw [hab4]; simp) hs'
                      ·
                        refine WL.off rfl rfl ?_
                        refine WL.off rfl rfl ?_
                        refine WL.off rfl rfl ?_
                        refine WL.p rfl rfl rfl (P.pickF rfl rfl) ?_
                        refine WL.p rfl rfl rfl (P.assign rfl) ?_
                        refine WL.nil_ ?_
                        refine End.seq ?_
                        refine WC.ret ?_
                        refine End.ret1 rfl rfl ?_
                        exact absurd hs139 (by rw [hab4]; simp)
                    ·
                      refine WL.off rfl rfl ?_
                      refine WL.off rfl rfl ?_
                      refine WL.p rfl rfl rfl (P.pickF rfl rfl) ?_
                      refine WL.p rfl rfl rfl (P.move rfl) ?_
                      refine WL.off rfl rfl ?_
                      refine WL.off rfl rfl ?_
                      refine WL.off rfl rfl ?_
                      refine WL.p rfl rfl rfl (P.pickF rfl rfl) ?_
                      refine WL.p rfl rfl rfl (P.assign rfl) ?_
                      refine WL.nil_ ?_
                      refine End.seq ?_
                      refine WC.ret ?_
                      refine End.ret1 rfl rfl ?_
                      exact absurd hs135 (by rw [hzc]; simp)
                  ·
                    refine WL.off rfl rfl ?_
                    refine WL.off rfl rfl ?_
                    refine WL.p rfl rfl rfl (P.pickF rfl rfl) ?_
                    refine WL.p rfl rfl rfl (P.move rfl) ?_
                    refine WL.off rfl rfl ?_
                    refine WL.off rfl rfl ?_
                    refine WL.p rfl rfl rfl (P.pickF rfl rfl) ?_
                    refine WL.p rfl rfl rfl (P.move rfl) ?_
                    refine WL.off rfl rfl ?_
                    refine WL.off rfl rfl ?_
                    refine WL.off rfl rfl ?_
                    refine WL.p rfl rfl rfl (P.pickF rfl rfl) ?_
                    refine WL.p rfl rfl rfl (P.assign rfl) ?_
                    refine WL.nil_ ?_
                    refine End.seq ?_
                    refine WC.ret ?_
                    refine End.ret1 rfl rfl ?_
                    exact absurd hs131 (by rw [hab3]; simp; omega)
                ·
                  refine WL.off rfl rfl ?_
                  refine WL.off rfl rfl ?_
                  refine WL.off rfl rfl ?_
                  refine WL.off rfl rfl ?_
                  refine WL.off rfl rfl ?_
                  refine WL.off rfl rfl ?_
                  refine WL.off rfl rfl ?_
                  refine WL.off rfl rfl ?_
                  refine WL.p rfl rfl rfl (P.pickF rfl rfl) ?_
                  refine WL.p rfl rfl rfl (P.move rfl) ?_
                  refine WL.off rfl rfl ?_
                  refine WL.off rfl rfl ?_
                  refine WL.p rfl rfl rfl (P.pickF rfl rfl) ?_
                  refine WL.p rfl rfl rfl (P.move rfl) ?_
                  refine WL.off rfl rfl ?_
                  refine WL.off rfl rfl ?_
                  refine WL.p rfl rfl rfl (P.pickF rfl rfl) ?_
                  refine WL.p rfl rfl rfl (P.move rfl) ?_
                  refine WL.off rfl rfl ?_
                  refine WL.off rfl rfl ?_
                  refine WL.off rfl rfl ?_
                  refine WL.p rfl rfl rfl (P.pickF rfl rfl) ?_
                  refine WL.p rfl rfl rfl (P.assign rfl) ?_
                  refine WL.nil_ ?_
                  refine End.seq ?_
                  refine WC.ret ?_
                  refine End.ret1 rfl rfl ?_
                  exact absurd hs121 (by rw [hab3]; simp)

end Go.Proofs.YtlkkiimmangplaaGreatDoor
