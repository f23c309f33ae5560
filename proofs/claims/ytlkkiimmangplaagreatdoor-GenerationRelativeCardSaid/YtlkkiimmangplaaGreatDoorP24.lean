/- The law on the greatest generations. -/
import Derived.Test.YtlkkiimmangplaaGreatDoorP22
namespace Go.Proofs.YtlkkiimmangplaaGreatDoor
open Go.RowKit
set_option linter.unusedVariables false
set_option linter.unusedSimpArgs false

theorem WC.is {w0 : World} {n : Nat} {Q : Exit → Act → World → Prop} {ρ : Env} {H : List It} {cd : Code} (s : Nat) {v v' : Value} (hc : Env.find ρ s = some v) (e : v = v') (k : WC w0 n Q cd ((s, v') :: ρ) H) : WC w0 n Q cd ρ H := fun a w hfit hs => by
  subst e
  exact k a w (hfit.sub (Env.sub_cons hc fun _ _ h => h)) hs
/-- One new generation: RollIn and Roll together. -/
theorem roll1 (e : E) (xs : List Int) (n : Int) : (∃ c, rin e xs n = .error c ∧ rrollP e xs [n] = .error c) ∨
    (∃ m, m ≤ xs.length ∧ rin e xs n = .ok (xs.take m) ∧ rrollP e xs [n] = .ok (n, xs.drop m ++ [n]) ∧ rgenV e xs = true ∧ rgenV { e with last := n } (xs.drop m ++ [n]) = true ∧ e.last < n ∧ n ≤ 9999 ∧ m = (if e.empty = true ∧ 0 < (xs.length : Int) + 1 - e.limit then xs.length else mx0 ((xs.length : Int) + 1 - e.limit))) := by
  unfold rrollP
  cases h : rgenV e xs with
  | false => exact .inl ⟨1, by rw [rin, if_pos h], by rw [if_pos rfl]⟩
  | true =>
    rw [if_neg (by simp)]
    rcases step_eq (e := e) (last := e.last) (n := n) (now := xs) (gone := []) h with ⟨c, h1, h2⟩ | ⟨m, hm, h1, h2, h3, h4, h5, h6, h7, h8⟩
    · refine .inl ⟨c, ?_, by simp only [rroll, h2]⟩
      have h3 := fold1_eq e xs n
      unfold foldP at h3
      rw [genV_eq, h, if_pos rfl] at h3
      simp only [roll, h1] at h3
      exact h3.symm
    · exact .inr ⟨m, hm, h2, by simp only [rroll, h3], rfl, h4, h5, h7, h8⟩
theorem roll1_code (e : E) (xs : List Int) (n : Int) : rC (rin e xs n) = zC (rrollP e xs [n]) := by
  rcases roll1 e xs n with ⟨c, h1, h2⟩ | ⟨m, _, h1, h2, _⟩ <;> rw [h1, h2] <;> rfl
theorem roll1_bad {e : E} {xs : List Int} {n : Int} (h : ¬ rC (rin e xs n) = 0) : gL (rin e xs n) = [] ∧ zL (rrollP e xs [n]) = [] := by
  rcases roll1 e xs n with ⟨c, h1, h2⟩ | ⟨m, _, h1, h2, _⟩
  · rw [h1, h2]; exact ⟨rfl, rfl⟩
  · rw [h1] at h; exact absurd rfl h
theorem roll1_good {e : E} {xs : List Int} {n : Int} (h : rC (rin e xs n) = 0) : ∃ m, m ≤ xs.length ∧ rin e xs n = .ok (xs.take m) ∧ rrollP e xs [n] = .ok (n, xs.drop m ++ [n]) ∧ rgenV e xs = true ∧ rgenV { e with last := n } (xs.drop m ++ [n]) = true ∧ e.last < n ∧ n ≤ 9999 ∧ m = (if e.empty = true ∧ 0 < (xs.length : Int) + 1 - e.limit then xs.length else mx0 ((xs.length : Int) + 1 - e.limit)) := by
  rcases roll1 e xs n with ⟨c, h1, h2⟩ | h2
  · rw [h1] at h
    have h3 : c = 0 := h
    have := rin_code h1
    omega
  · exact h2

set_option maxRecDepth 100000 in
theorem greatest_law (e : E) (va vg : Value) (A0 : Option Addr) (c0 : Nat) (xs : List Int) (n : Int) (w : World) (hg : Good w) (ha : EntAt w e va vg) (hr : Sl encI 1 w A0 xs) (hc0 : xs.length ≤ c0) (hz : A0 = none → c0 = 0) :
    Calls Tryz.prog 6 #[.agg (e.cells va vg), .slice A0 xs.length c0, .int .i64 n] w (RetV w (.bool true)) := by
  have ha0 := ha
  obtain ⟨⟨A1, c1, rfl, hc1, hr1⟩, ⟨A2, c2, rfl, hc2, hr2⟩⟩ := ha
  refine enter Tryz.func6 rfl Tryz.ntmps6 rfl ?_
  refine WC.seq ?_
  refine WC.region ?_
  refine WL.box rfl rfl rfl (fun b3 => ?_)
  refine WL.p rfl rfl rfl (P.assign rfl) ?_
  refine WL.nil_ ?_
  refine End.seq ?_
  refine WC.seq ?_
  refine WC.seq ?_
  refine WC.region ?_
  refine WL.callv (ent_of Tryz.func26 rfl rfl) rfl rfl rfl (fun w hs => awake_any w (hg.st hs)) ?_
  refine WL.p rfl rfl rfl (P.not_ rfl) ?_
  refine WL.nil_ ?_
  refine End.seq ?_
  refine WC.cond rfl (fun hc16 => ?_) (fun hc16 => ?_)
  ·
    refine WC.seq ?_
    refine WC.region ?_
    refine WL.p rfl rfl rfl (P.assign rfl) ?_
    refine WL.nil_ ?_
    refine End.seq ?_
    refine WC.ret ?_
    refine End.thenR ?_
    refine End.ret1 rfl rfl ?_
    exact absurd hc16 (by decide)
  ·
    refine WC.skip ?_
    refine End.seq ?_
    refine WC.seq ?_
    refine WC.seq ?_
    refine WC.region ?_
    refine WL.p rfl rfl rfl (P.loadW 0 Tryz.isAgg34 Tryz.sizeOf34 rfl rfl rfl) ?_
    refine WL.p rfl rfl rfl (P.move rfl) ?_
    refine WL.callv (ent_of Tryz.func29 rfl rfl) rfl rfl rfl (fun w hs => few_any e _ _ A0 none xs.length c0 0 0 w (ha0.st hs)) ?_
    refine WL.p rfl rfl rfl (P.not_ rfl) ?_
    refine WL.nil_ ?_
    refine End.seq ?_
    refine WC.cond rfl (fun hc20 => ?_) (fun hc20 => ?_)
    ·
      refine WC.seq ?_
      refine WC.region ?_
      refine WL.p rfl rfl rfl (P.assign rfl) ?_
      refine WL.nil_ ?_
      refine End.seq ?_
      refine WC.ret ?_
      refine End.thenR ?_
      refine End.ret1 rfl rfl ?_
      exact fun w' hs' => RetV.of rfl hs'
    ·
      have hf := fewG_of (show fewG e xs.length 0 = true by simpa using hc20)
      refine WC.skip ?_
      refine End.seq ?_
      refine WC.seq ?_
      refine WC.region ?_
      refine WL.p rfl rfl rfl (P.loadW 0 Tryz.isAgg34 Tryz.sizeOf34 rfl rfl rfl) ?_
      refine WL.p rfl rfl rfl (P.move rfl) ?_
      refine WL.p rfl rfl rfl (P.move rfl) ?_
      refine WL.callx (ent_of Tryz.func36 rfl rfl) rfl rfl rfl (fun w hs => rollInU e _ _ A0 c0 xs n w (hg.st hs) (ha0.st hs) (hr.st hs) (by omega)) (fun p1 hp1 => ?_)
      refine WL.p rfl rfl rfl (P.move rfl) ?_
      refine WL.p rfl rfl rfl (P.extract rfl rfl) ?_
      refine WL.p rfl rfl rfl (P.extract rfl rfl) ?_
      refine WL.p rfl rfl rfl (P.extract rfl rfl) ?_
      refine WL.alloc Tryz.zeroValue34 rfl rfl (fun b7 => ?_)
      refine WL.storeW 0 Tryz.sizeOf34 rfl rfl rfl (E.one _ (rV_one rfl) (rV_one rfl)) rfl rfl rfl ?_
      refine WL.p rfl rfl rfl (P.assign rfl) ?_
      refine WL.p rfl rfl rfl (P.assign rfl) ?_
      refine WL.nil_ ?_
      refine End.seq ?_
      refine WC.seq ?_
      refine WC.region ?_
      refine WL.p rfl rfl rfl (P.loadW 2 Tryz.isAgg34 Tryz.sizeOf34 rfl rfl rfl) ?_
      refine WL.p rfl rfl rfl (P.move rfl) ?_
      refine WL.p rfl rfl rfl (P.move rfl) ?_
      refine WL.row Tryz.underlying22 Tryz.sizeOf3 Tryz.zeroValue3 rfl rfl rfl rfl rfl rfl rfl rfl rfl (fun b33 => ?_)
      refine WL.callx (ent_of Tryz.func30 rfl rfl) rfl rfl rfl (fun w hs => rollU e _ _ A0 (some ⟨b33, 0, none⟩) c0 1 xs [n] w (hg.st hs) (ha0.st hs) (hr.st hs) (slI_row hs (j := 0) (xs := [n]) rfl rfl (by simp)) (by omega) (by simp)) (fun p2 hp2 => ?_)
      refine WL.p rfl rfl rfl (P.move rfl) ?_
      refine WL.p rfl rfl rfl (P.extract rfl rfl) ?_
      refine WL.p rfl rfl rfl (P.extract rfl rfl) ?_
      refine WL.p rfl rfl rfl (P.extract rfl rfl) ?_
      refine WL.alloc Tryz.zeroValue34 rfl rfl (fun b10 => ?_)
      refine WL.storeW 0 Tryz.sizeOf34 rfl rfl rfl (E.one _ (zV_one rfl) (zV_one rfl)) rfl rfl rfl ?_
      refine WL.p rfl rfl rfl (P.assign rfl) ?_
      refine WL.p rfl rfl rfl (P.assign rfl) ?_
      refine WL.nil_ ?_
      refine End.seq ?_
      refine WC.seq ?_
      refine WC.seq ?_
      refine WC.region ?_
      refine WL.p rfl rfl rfl (P.move rfl) ?_
      refine WL.p rfl rfl rfl (P.move rfl) ?_
      refine WL.p rfl rfl rfl (P.cmp rfl rfl rfl) ?_
      refine WL.nil_ ?_
      refine End.seq ?_
      refine WC.cond rfl (fun hc40 => ?_) (fun hc40 => ?_)
      ·
        refine WC.seq ?_
        refine WC.region ?_
        refine WL.p rfl rfl rfl (P.assign rfl) ?_
        refine WL.nil_ ?_
        refine End.seq ?_
        refine WC.ret ?_
        refine End.thenR ?_
        refine End.ret1 rfl rfl ?_
        exact absurd hc40 (by rw [roll1_code]; simp)
      ·
        refine WC.skip ?_
        refine End.seq ?_
        refine WC.seq ?_
        refine WC.seq ?_
        refine WC.region ?_
        refine WL.p rfl rfl rfl (P.move rfl) ?_
        refine WL.p rfl rfl rfl (P.cmp rfl rfl rfl) ?_
        refine WL.nil_ ?_
        refine End.seq ?_
        refine WC.cond rfl (fun hc42 => ?_) (fun hc42 => ?_)
        ·
          refine WC.seq ?_
          refine WC.region ?_
          refine WL.p rfl rfl rfl (P.move rfl) ?_
          refine WL.p rfl rfl rfl (P.lenR Tryz.underlying22 rfl) ?_
          refine WL.p rfl rfl rfl (P.cmp rfl rfl rfl) ?_
          refine WL.p rfl rfl rfl (P.move rfl) ?_
          refine WL.split 46 rfl (fun hs46 => ?_) (fun hs46 => ?_)
          ·
            refine WL.p rfl rfl rfl (P.move rfl) ?_
            refine WL.p rfl rfl rfl (P.lenR Tryz.underlying22 rfl) ?_
            refine WL.p rfl rfl rfl (P.cmp rfl rfl rfl) ?_
            refine WL.p rfl rfl rfl (P.pickT rfl rfl) ?_
            refine WL.p rfl rfl rfl (P.assign rfl) ?_
            refine WL.nil_ ?_
            refine End.seq ?_
            refine WC.ret ?_
            refine End.thenR ?_
            refine End.ret1 rfl rfl ?_
            exact fun w' hs' => RetV.of (by rw [(roll1_bad (show ¬ rC (rin e xs n) = 0 by simpa using hc42)).2]; rfl) hs'
          ·
            refine WL.off rfl rfl ?_
            refine WL.off rfl rfl ?_
            refine WL.off rfl rfl ?_
            refine WL.p rfl rfl rfl (P.pickF rfl rfl) ?_
            refine WL.p rfl rfl rfl (P.assign rfl) ?_
            refine WL.nil_ ?_
            refine End.seq ?_
            refine WC.ret ?_
            refine End.thenR ?_
            refine End.ret1 rfl rfl ?_
            exact absurd hs46 (by rw [(roll1_bad (show ¬ rC (rin e xs n) = 0 by simpa using hc42)).1]; simp)
        ·
          obtain ⟨m, hm, h1, h2, hv, hv2, hlt, hle, hmd⟩ := roll1_good (show rC (rin e xs n) = 0 by simpa using hc42)
          have hgl : gL (rin e xs n) = xs.take m := by rw [h1]; rfl
          have hzl : zL (rrollP e xs [n]) = xs.drop m ++ [n] := by rw [h2]; rfl
          have hlim : (rE (rin e xs n) e n).limit = e.limit := by rw [h1]; rfl
          have hemp : (rE (rin e xs n) e n).empty = e.empty := by rw [h1]; rfl
          have hlo := rgenV_lim hv
          have hdr : (xs ++ [n]).drop m = zL (rrollP e xs [n]) := by rw [hzl, List.drop_append_of_le_length hm]
          have hall : ((xs ++ [n]).length : Int) = (xs.length : Int) + 1 := by simp
          have hzn : (zL (rrollP e xs [n])).length = xs.length - m + 1 := by rw [hzl]; simp
          refine WC.skip ?_
          refine End.seq ?_
          refine WC.seq ?_
          refine WC.region ?_
          refine WL.buildSlice rfl rfl rfl (fun w => run_buildSlice0 Tryz.underlying22 Tryz.sizeOf3 w) (fun b51 => ?_)
          refine WL.asRow 0 rfl rfl (by decide) ?_
          refine WL.p rfl rfl rfl (P.move rfl) ?_
          refine WL.extend 0 (l := 0) (m := xs.length) (xs := []) (news := ints xs) (all := ints xs) (lt := xs.length) el22 rfl rfl rfl rfl rfl (by simp [ints]) (fun w hs => (hr.st hs).src' hz) (ints_one _) rfl (Nat.zero_add _) (by simp only [maxLen]; omega) (by omega) (fun q1 cap1 hq1 => ?_)
          refine WL.p rfl rfl rfl (P.move rfl) ?_
          refine WL.row Tryz.underlying22 Tryz.sizeOf3 Tryz.zeroValue3 rfl rfl rfl rfl rfl rfl rfl rfl rfl (fun b55 => ?_)
          refine WL.extend 1 (l := xs.length) (m := 1) (xs := ints xs) (news := ints [n]) (all := ints (xs ++ [n])) (lt := (xs ++ [n]).length) el22 rfl rfl rfl rfl rfl rfl (fun w hs => .inr ⟨_, rfl, news_blk hs (j := 0) rfl rfl⟩) (ints_one _) (ints_app _ _) (by simp) (by simp only [maxLen]; omega) (by omega) (fun q2 cap2 hq2 => ?_)
          refine WL.p rfl rfl rfl (P.assign rfl) ?_
          refine WL.nil_ ?_
          refine End.seq ?_
          refine WC.seq ?_
          refine WC.region ?_
          refine WL.p rfl rfl rfl (P.move rfl) ?_
          refine WL.mem [1, 3, 4, 6, 7] rfl ?_
          refine WL.p rfl rfl rfl (P.assign rfl) ?_
          refine WL.nil_ ?_
          refine End.seq ?_
          refine WC.cutD (σ := Option Addr × Nat) (fun (A', c') => [(14, .slice A' (zL (rrollP e xs [n])).length c')]) (fun (A', c') => [.row 3 1 (.slice (some ⟨q2, 0, none⟩) (xs ++ [n]).length cap2) (xs ++ [n]).length (ints (xs ++ [n])), p2.2.2.1, p2.2.2.2, .blk b7 34 ((rE (rin e xs n) e n).cells (rV (rin e xs n) (.slice A1 e.alt.length c1)) (rV (rin e xs n) (.slice A2 e.grants.length c2))), p1.2.2]) (fun (A', c') => ∀ w', St w [.row 3 1 (.slice (some ⟨q2, 0, none⟩) (xs ++ [n]).length cap2) (xs ++ [n]).length (ints (xs ++ [n])), p2.2.2.1, p2.2.2.2, .blk b7 34 ((rE (rin e xs n) e n).cells (rV (rin e xs n) (.slice A1 e.alt.length c1)) (rV (rin e xs n) (.slice A2 e.grants.length c2))), p1.2.2] w' → Sl encI 1 w' A' (zL (rrollP e xs [n]))) ?_ (fun (A', c') hW => ?_)
          ·
            refine WC.seq ?_
            refine WC.region ?_
            refine WL.p rfl rfl rfl (P.move rfl) ?_
            refine WL.p rfl rfl rfl (P.lenR Tryz.underlying22 rfl) ?_
            refine WL.p rfl rfl rfl (P.fieldAddr fa_34_5 rfl) ?_
            refine WL.p rfl rfl rfl (P.loadO 3 Tryz.isAgg3 rfl rfl rfl) ?_
            refine WL.p rfl rfl rfl (P.cmp rfl rfl rfl) ?_
            refine WL.nil_ ?_
            refine End.seq ?_
            refine WC.cond rfl (fun hc62 => ?_) (fun hc62 => ?_)
            ·
              have hbig : e.limit < ((xs ++ [n]).length : Int) := by have := of_decide_eq_true hc62; omega
              refine WC.seq ?_
              refine WC.region ?_
              refine WL.p rfl rfl rfl (P.move rfl) ?_
              refine WL.p rfl rfl rfl (P.move rfl) ?_
              refine WL.p rfl rfl rfl (P.lenR Tryz.underlying22 rfl) ?_
              refine WL.p rfl rfl rfl (P.fieldAddr fa_34_5 rfl) ?_
              refine WL.p rfl rfl rfl (P.loadO 3 Tryz.isAgg3 rfl rfl rfl) ?_
              refine WL.p rfl rfl rfl (P.ari64 rfl rfl rfl (by omega)) ?_
              refine WL.p rfl rfl rfl (P.cutAny Tryz.underlying22 Tryz.sizeOf3 rfl rfl (by omega) (by omega)) ?_
              refine WL.p rfl rfl rfl (P.assign rfl) ?_
              refine WL.nil_ ?_
              refine End.seq ?_
              refine WC.seq ?_
              refine WC.region ?_
              refine WL.p rfl rfl rfl (P.fieldAddr fa_34_7 rfl) ?_
              refine WL.p rfl rfl rfl (P.loadO 3 Tryz.isAgg4 rfl rfl rfl) ?_
              refine WL.nil_ ?_
              refine End.seq ?_
              refine WC.cond rfl (fun hc71 => ?_) (fun hc71 => ?_)
              ·
                refine WC.region ?_
                refine WL.p rfl rfl rfl (P.move rfl) ?_
                refine WL.p rfl rfl rfl (P.move rfl) ?_
                refine WL.p rfl rfl rfl (P.lenR Tryz.underlying22 rfl) ?_
                refine WL.p rfl rfl rfl (P.ari64 rfl rfl rfl (by omega)) ?_
                refine WL.p rfl rfl rfl (P.cutAny Tryz.underlying22 Tryz.sizeOf3 rfl rfl (by omega) (by omega)) ?_
                have hem : e.empty = true := by rw [← hemp]; exact hc71
                have hmi : (((xs ++ [n]).length : Int) - 1).toNat = m := by rw [hmd, if_pos ⟨hem, by omega⟩]; omega
                refine WL.is 76 rfl (show _ = Value.slice (cutA (some ⟨q2, 0, none⟩) m cap2 1) (zL (rrollP e xs [n])).length (cap2 - m) from by rw [hmi]; congr 1; omega) ?_
                refine WL.p rfl rfl rfl (P.assign rfl) ?_
                refine WL.nil_ ?_
                refine End.atD (_, _) ?_ rfl (Env.sub_cons rfl (Env.sub_nil)) rfl [0, 1, 2, 3, 4] rfl rfl
                · exact fun w' hs => hdr ▸ ((sl_item hs (j := 0) (xs := xs ++ [n]) rfl (by simp; omega)).cut m hq2)
              ·
                have hem : ¬ e.empty = true := by rw [← hemp, hc71]; simp
                have hmi : (((xs ++ [n]).length : Int) - (rE (rin e xs n) e n).limit).toNat = m := by rw [hmd, if_neg (fun h => hem h.1)]; unfold mx0; rw [if_pos (by omega)]; omega
                refine WC.is 14 rfl (show _ = Value.slice (cutA (some ⟨q2, 0, none⟩) m cap2 1) (zL (rrollP e xs [n])).length (cap2 - m) from by rw [hmi]; congr 1; omega) ?_
                refine WC.skip ?_
                refine End.atD (_, _) ?_ rfl (Env.sub_cons rfl (Env.sub_nil)) rfl [0, 1, 2, 3, 4] rfl rfl
                · exact fun w' hs => hdr ▸ ((sl_item hs (j := 0) (xs := xs ++ [n]) rfl (by simp; omega)).cut m hq2)
            ·
              have hbig : ((xs ++ [n]).length : Int) ≤ e.limit := by have := of_decide_eq_false hc62; omega
              have hm0 : m = 0 := by rw [hmd, if_neg (by omega)]; unfold mx0; rw [if_neg (by omega)]; rfl
              refine WC.is 14 rfl (congrArg (fun q => Value.slice (some ⟨q2, 0, none⟩) q cap2) (show (xs ++ [n]).length = (zL (rrollP e xs [n])).length from by omega)) ?_
              refine WC.skip ?_
              refine End.atD (_, _) ?_ rfl (Env.sub_cons rfl (Env.sub_nil)) rfl [0, 1, 2, 3, 4] rfl rfl
              · exact fun w' hs => by rw [← hdr, hm0, List.drop_zero]; exact sl_item hs (j := 0) rfl (by simp; omega)
          ·
            refine WC.seq ?_
            refine WC.region ?_
            refine WL.p rfl rfl rfl (P.move rfl) ?_
            refine WL.p rfl rfl rfl (P.move rfl) ?_
            refine WL.callv (ent_of Tryz.func33 rfl rfl) rfl rfl rfl (fun w hs => refInts_any _ _ _ _ _ _ w (hp2.1 _ _ (hs.sel [1, 2] rfl)) (hW w hs)) ?_
            refine WL.p rfl rfl rfl (P.move rfl) ?_
            refine WL.split 80 rfl (fun hs80 => ?_) (fun hs80 => ?_)
            ·
              refine WL.buildSlice rfl rfl rfl (fun w => run_buildSlice0 Tryz.underlying22 Tryz.sizeOf3 w) (fun b81 => ?_)
              refine WL.asRow 0 rfl rfl (by decide) ?_
              refine WL.p rfl rfl rfl (P.move rfl) ?_
              refine WL.extend 0 (l := 0) (m := (gL (rin e xs n)).length) (xs := []) (news := ints (gL (rin e xs n))) (all := ints (gL (rin e xs n))) (lt := (gL (rin e xs n)).length) el22 rfl rfl rfl rfl rfl (by simp [ints]) (fun w hs => (hp1.1 _ _ (hs.sel [5] rfl)).src' hp1.2) (ints_one _) rfl (Nat.zero_add _) (by rw [hgl, List.length_take]; simp only [maxLen]; omega) (by rw [hgl, List.length_take]; omega) (fun q3 cap3 hq3 => ?_)
              refine WL.p rfl rfl rfl (P.move rfl) ?_
              refine WL.extend 0 (l := (gL (rin e xs n)).length) (m := (zL (rrollP e xs [n])).length) (xs := ints (gL (rin e xs n))) (news := ints (zL (rrollP e xs [n]))) (all := ints (gL (rin e xs n) ++ zL (rrollP e xs [n]))) (lt := (gL (rin e xs n) ++ zL (rrollP e xs [n])).length) el22 rfl rfl rfl rfl rfl (by simp [ints]) (fun w hs => (hp2.1 _ _ (hs.sel [2, 3] rfl)).src' (fun h => by obtain ⟨_, _, e9, _⟩ := (hp2.1 _ _ (hs.sel [2, 3] rfl)).at_ (by omega); rw [h] at e9; cases e9)) (ints_one _) (ints_app _ _) (by simp) (by rw [hgl, List.length_take]; simp only [maxLen]; omega) (by rw [hgl, List.length_take]; omega) (fun q4 cap4 hq4 => ?_)
              refine WL.p rfl rfl rfl (P.move rfl) ?_
              refine WL.callv (ent_of Tryz.func33 rfl rfl) rfl rfl rfl (fun w hs => refInts_any _ _ _ _ _ _ w (sl_item hs (j := 0) rfl (by rw [List.length_append, hgl, List.length_take]; omega)) (sl_item hs (j := 1) rfl (by simp; omega))) ?_
              refine WL.p rfl rfl rfl (P.pickT rfl rfl) ?_
              refine WL.p rfl rfl rfl (P.assign rfl) ?_
              refine WL.nil_ ?_
              refine End.seq ?_
              refine WC.ret ?_
              refine End.ret1 rfl rfl ?_
              exact fun w' hs' => RetV.of (by rw [hgl, hzl, ← List.append_assoc, List.take_append_drop]; simp) hs'
            ·
              refine WL.off rfl rfl ?_
              refine WL.off rfl rfl ?_
              refine WL.off rfl rfl ?_
              refine WL.off rfl rfl ?_
              refine WL.off rfl rfl ?_
              refine WL.off rfl rfl ?_
              refine WL.off rfl rfl ?_
              refine WL.p rfl rfl rfl (P.pickF rfl rfl) ?_
              refine WL.p rfl rfl rfl (P.assign rfl) ?_
              refine WL.nil_ ?_
              refine End.seq ?_
              refine WC.ret ?_
              refine End.ret1 rfl rfl ?_
              exact absurd hs80 (by simp)

end Go.Proofs.YtlkkiimmangplaaGreatDoor
