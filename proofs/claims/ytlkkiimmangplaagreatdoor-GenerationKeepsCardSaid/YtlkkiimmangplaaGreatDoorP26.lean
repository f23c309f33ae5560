/- The law on what is kept. -/
import Derived.Test.YtlkkiimmangplaaGreatDoorP21
import Derived.Test.YtlkkiimmangplaaGreatDoorV6
namespace Go.Proofs.YtlkkiimmangplaaGreatDoor
open Go.RowKit
set_option linter.unusedVariables false
set_option linter.unusedSimpArgs false

theorem rroll_codes {e : E} {c : Int} : ∀ (ls : List Int) (s : Int × List Int), rroll e s ls = .error c → c ≠ 0
  | [], s, h => by cases h
  | n :: r, s, h => by
    unfold rroll at h
    cases hs : rstep e s n with
    | error d =>
      rw [hs] at h
      cases h
      unfold rstep at hs
      split at hs
      · rename_i h2
        cases hs
        have := rin_code h2
        omega
      · cases hs
    | ok s1 =>
      rw [hs] at h
      exact rroll_codes r s1 h
theorem rrollP_code {e : E} {xs ls : List Int} {c : Int} (h : rrollP e xs ls = .error c) : c ≠ 0 := by
  unfold rrollP at h
  split at h
  · cases h; decide
  · exact rroll_codes ls _ h
theorem rroll_facts (e : E) : ∀ (ls : List Int) (last l' : Int) (now now' : List Int), rgenV { e with last := last } now = true → rroll e (last, now) ls = .ok (l', now') →
    rgenV { e with last := l' } now' = true ∧ (∀ x ∈ now', x ∈ now ∨ x ∈ ls) ∧ (ls = [] ∨ ((now'.length : Int) ≤ e.limit ∧ 0 < now'.length ∧ now'[now'.length - 1]? = some l' ∧ ls[ls.length - 1]? = some l' ∧ 0 < ls.length))
  | [], last, l', now, now', hv, h => by
    simp only [rroll] at h
    cases h
    exact ⟨hv, fun x hx => .inl hx, .inl rfl⟩
  | n :: r, last, l', now, now', hv, h => by
    have hl := rgenV_lim hv
    have hl1 : 1 ≤ e.limit ∧ e.limit ≤ 63 := hl.1
    rcases step_eq (n := n) (gone := []) hv with ⟨c, _, h2⟩ | ⟨m, hm, _, _, h2, h3, _, _, _, hmd⟩
    · simp only [rroll, h2] at h
      cases h
    · simp only [rroll, h2] at h
      have ih := rroll_facts e r n l' _ now' h3 h
      refine ⟨ih.1, fun x hx => ?_, .inr ?_⟩
      · rcases ih.2.1 x hx with h4 | h4
        · rw [List.mem_append, List.mem_singleton] at h4
          rcases h4 with h4 | rfl
          · exact .inl (List.mem_of_mem_drop h4)
          · exact .inr (List.mem_cons_self ..)
        · exact .inr (List.mem_cons_of_mem _ h4)
      · rcases ih.2.2 with rfl | ⟨h5, h6, h7, h8, h9⟩
        · simp only [rroll] at h
          cases h
          have hlen : (now.drop m ++ [n]).length = now.length - m + 1 := by simp
          refine ⟨?_, by omega, ?_, rfl, by simp⟩
          · rw [hlen, hmd]
            unfold mx0
            split <;> (try split) <;> omega
          · rw [hlen, Nat.add_sub_cancel, List.getElem?_append_right (by simp)]
            simp
        · refine ⟨h5, h6, h7, ?_, by simp⟩
          obtain ⟨k, hk⟩ : ∃ k, r.length = k + 1 := ⟨r.length - 1, by omega⟩
          rw [show (n :: r).length - 1 = k + 1 by simp [hk], List.getElem?_cons_succ]
          rw [hk] at h8
          exact h8
theorem rrollP_facts {e : E} {ls xs : List Int} (h : zC (rrollP e xs ls) = 0) : rgenV (zE (rrollP e xs ls) e) (zL (rrollP e xs ls)) = true ∧ (∀ x ∈ zL (rrollP e xs ls), x ∈ xs ++ ls) ∧ { zE (rrollP e xs ls) e with last := e.last } = e ∧ (zE (rrollP e xs ls) e).limit = e.limit ∧
    (ls = [] ∨ (((zL (rrollP e xs ls)).length : Int) ≤ e.limit ∧ 0 < (zL (rrollP e xs ls)).length ∧ (zL (rrollP e xs ls))[(zL (rrollP e xs ls)).length - 1]? = some (zE (rrollP e xs ls) e).last ∧ ls[ls.length - 1]? = some (zE (rrollP e xs ls) e).last ∧ 0 < ls.length)) := by
  cases hR : rrollP e xs ls with
  | error c =>
    rw [hR] at h
    have h1 : c = 0 := h
    exact absurd h1 (rrollP_code hR)
  | ok q =>
    obtain ⟨l', now'⟩ := q
    unfold rrollP at hR
    split at hR
    · cases hR
    · rename_i hv
      have := rroll_facts e ls e.last l' xs now' (by simpa using hv) hR
      refine ⟨this.1, fun x hx => List.mem_append.2 (this.2.1 x hx), rfl, rfl, this.2.2⟩
theorem rrollP_no {e : E} {ls xs : List Int} (h : ¬ zC (rrollP e xs ls) = 0) : zE (rrollP e xs ls) e = E.zero ∧ zL (rrollP e xs ls) = [] := by
  cases hR : rrollP e xs ls with
  | error c => exact ⟨rfl, rfl⟩
  | ok q => rw [hR] at h; exact absurd rfl h

set_option maxRecDepth 100000 in
theorem keeps_law (e : E) (va vg : Value) (A0 A9 : Option Addr) (c0 c9 : Nat) (xs ls : List Int) (w : World) (hg : Good w) (ha : EntAt w e va vg) (hr : Sl encI 1 w A0 xs) (hr9 : Sl encI 1 w A9 ls) (hc0 : xs.length ≤ c0) (hz : A0 = none → c0 = 0) (hz9 : A9 = none → c9 = 0) :
    Calls Tryz.prog 5 #[.agg (e.cells va vg), .slice A0 xs.length c0, .slice A9 ls.length c9] w (RetV w (.bool true)) := by
  have ha0 := ha
  obtain ⟨⟨A1, c1, rfl, hc1, hr1⟩, ⟨A2, c2, rfl, hc2, hr2⟩⟩ := ha
  refine enter Tryz.func5 rfl Tryz.ntmps5 rfl ?_
  refine WC.seq ?_
  refine WC.region ?_
  refine WL.box rfl rfl rfl (fun b3 => ?_)
  refine WL.p rfl rfl rfl (P.assign rfl) ?_
  refine WL.nil_ ?_
  refine End.seq ?_
  refine WC.seq ?_
  refine WC.seq ?_
  refine WC.region ?_
  refine WL.callv (ent_of Tryz.func26 rfl rfl) rfl rfl rfl (fun w hs => awake_any w (hg.st hs)) ?_
  refine WL.p rfl rfl rfl (P.not_ rfl) ?_
  refine WL.nil_ ?_
  refine End.seq ?_
  refine WC.cond rfl (fun hc17 => ?_) (fun hc17 => ?_)
  ·
    refine WC.seq ?_
    refine WC.region ?_
    refine WL.p rfl rfl rfl (P.assign rfl) ?_
    refine WL.nil_ ?_
    refine End.seq ?_
    refine WC.ret ?_
    refine End.thenR ?_
    refine End.ret1 rfl rfl ?_
    exact absurd hc17 (by decide)
  ·
    refine WC.skip ?_
    refine End.seq ?_
    refine WC.seq ?_
    refine WC.seq ?_
    refine WC.region ?_
    refine WL.p rfl rfl rfl (P.loadW 0 Tryz.isAgg34 Tryz.sizeOf34 rfl rfl rfl) ?_
    refine WL.p rfl rfl rfl (P.move rfl) ?_
    refine WL.p rfl rfl rfl (P.move rfl) ?_
    refine WL.callv (ent_of Tryz.func29 rfl rfl) rfl rfl rfl (fun w hs => few_any e _ _ A0 A9 xs.length c0 ls.length c9 w (ha0.st hs)) ?_
    refine WL.p rfl rfl rfl (P.not_ rfl) ?_
    refine WL.nil_ ?_
    refine End.seq ?_
    refine WC.cond rfl (fun hc22 => ?_) (fun hc22 => ?_)
    ·
      refine WC.seq ?_
      refine WC.region ?_
      refine WL.p rfl rfl rfl (P.assign rfl) ?_
      refine WL.nil_ ?_
      refine End.seq ?_
      refine WC.ret ?_
      refine End.thenR ?_
      refine End.ret1 rfl rfl ?_
      exact fun w' hs' => RetV.of rfl hs'
    ·
      have hf := fewG_of (show fewG e xs.length ls.length = true by simpa using hc22)
      refine WC.skip ?_
      refine End.seq ?_
      refine WC.seq ?_
      refine WC.region ?_
      refine WL.p rfl rfl rfl (P.loadW 0 Tryz.isAgg34 Tryz.sizeOf34 rfl rfl rfl) ?_
      refine WL.p rfl rfl rfl (P.move rfl) ?_
      refine WL.p rfl rfl rfl (P.move rfl) ?_
      refine WL.callx (ent_of Tryz.func30 rfl rfl) rfl rfl rfl (fun w hs => rollU e _ _ A0 A9 c0 c9 xs ls w (hg.st hs) (ha0.st hs) (hr.st hs) (hr9.st hs) (by omega) (by omega)) (fun p hp => ?_)
      obtain ⟨Ap, cp, it1, it2⟩ := p
      refine WL.p rfl rfl rfl (P.move rfl) ?_
      refine WL.p rfl rfl rfl (P.extract rfl rfl) ?_
      refine WL.p rfl rfl rfl (P.extract rfl rfl) ?_
      refine WL.p rfl rfl rfl (P.extract rfl rfl) ?_
      refine WL.alloc Tryz.zeroValue34 rfl rfl (fun b7 => ?_)
      refine WL.storeW 0 Tryz.sizeOf34 rfl rfl rfl (E.one _ (zV_one rfl) (zV_one rfl)) rfl rfl rfl ?_
      refine WL.p rfl rfl rfl (P.assign rfl) ?_
      refine WL.p rfl rfl rfl (P.assign rfl) ?_
      refine WL.nil_ ?_
      refine End.seq ?_
      refine WC.seq ?_
      refine WC.seq ?_
      refine WC.region ?_
      refine WL.p rfl rfl rfl (P.move rfl) ?_
      refine WL.p rfl rfl rfl (P.cmp rfl rfl rfl) ?_
      refine WL.nil_ ?_
      refine End.seq ?_
      refine WC.cond rfl (fun hc32 => ?_) (fun hc32 => ?_)
      ·
        have hno := rrollP_no (show ¬ zC (rrollP e xs ls) = 0 by simpa using hc32)
        refine WC.seq ?_
        refine WC.region ?_
        refine WL.p rfl rfl rfl (P.move rfl) ?_
        refine WL.p rfl rfl rfl (P.lenR Tryz.underlying22 rfl) ?_
        refine WL.p rfl rfl rfl (P.cmp rfl rfl rfl) ?_
        refine WL.p rfl rfl rfl (P.move rfl) ?_
        refine WL.split 36 rfl (fun hs36 => ?_) (fun hs36 => ?_)
        ·
          refine WL.p rfl rfl rfl (P.loadW 0 Tryz.isAgg34 Tryz.sizeOf34 rfl rfl rfl) ?_
          refine WL.p rfl rfl rfl (P.build rfl (fun w => bo_34 Tryz.zeroValue34 (cs := #[_, _, _, _, _, _, _, _, _, _, _, _, _, _, _, _, _, _, _, _, _, _, _, _, _, _, _, _, _, _, _, _, _]) rfl rfl w)) ?_
          refine WL.callv (ent_of Tryz.func34 rfl rfl) rfl rfl rfl (fun w hs => same_any (zE (rrollP e xs ls) e) E.zero (zV (rrollP e xs ls) (.slice A1 e.alt.length c1)) (zV (rrollP e xs ls) (.slice A2 e.grants.length c2)) vnil vnil w (zEnt (rrollP e xs ls) (ha0.st hs)) (entNil rfl rfl)) ?_
          refine WL.p rfl rfl rfl (P.pickT rfl rfl) ?_
          refine WL.p rfl rfl rfl (P.assign rfl) ?_
          refine WL.nil_ ?_
          refine End.seq ?_
          refine WC.ret ?_
          refine End.thenR ?_
          refine End.ret1 rfl rfl ?_
          exact fun w' hs' => RetV.of (by rw [hno.1]; simp) hs'
        ·
          refine WL.off rfl rfl ?_
          refine WL.off rfl rfl ?_
          refine WL.off rfl rfl ?_
          refine WL.p rfl rfl rfl (P.pickF rfl rfl) ?_
          refine WL.p rfl rfl rfl (P.assign rfl) ?_
          refine WL.nil_ ?_
          refine End.seq ?_
          refine WC.ret ?_
          refine End.thenR ?_
          refine End.ret1 rfl rfl ?_
          exact absurd hs36 (by rw [hno.2]; simp)
      ·
        have hall : (xs ++ ls).length = xs.length + ls.length := List.length_append
        have hfa := rrollP_facts (show zC (rrollP e xs ls) = 0 by simpa using hc32)
        refine WC.skip ?_
        refine End.seq ?_
        refine WC.seq ?_
        refine WC.region ?_
        refine WL.makeMap rfl rfl (fun b41 => ?_)
        refine WL.p rfl rfl rfl (P.assign rfl) ?_
        refine WL.nil_ ?_
        refine End.seq ?_
        refine WC.seq ?_
        refine WC.seq ?_
        refine WC.region ?_
        refine WL.buildSlice rfl rfl rfl (fun w => run_buildSlice0 Tryz.underlying22 Tryz.sizeOf3 w) (fun b42 => ?_)
        refine WL.asRow 0 rfl rfl (by decide) ?_
        refine WL.p rfl rfl rfl (P.move rfl) ?_
        refine WL.extend 0 (l := 0) (m := xs.length) (xs := []) (news := ints xs) (all := ints xs) (lt := xs.length) el22 rfl rfl rfl rfl rfl (by simp [ints]) (fun w hs => (hr.st hs).src' hz) (ints_one _) rfl (Nat.zero_add _) (by simp only [maxLen]; omega) (by omega) (fun q1 cap1 hq1 => ?_)
        refine WL.p rfl rfl rfl (P.move rfl) ?_
        refine WL.extend 0 (l := xs.length) (m := ls.length) (xs := ints xs) (news := ints ls) (all := ints (xs ++ ls)) (lt := (xs ++ ls).length) el22 rfl rfl rfl rfl rfl (by simp [ints]) (fun w hs => (hr9.st hs).src' hz9) (ints_one _) (ints_app _ _) (by simp) (by simp only [maxLen]; omega) (by omega) (fun q2 cap2 hq2 => ?_)
        refine WL.p rfl rfl rfl (P.lenR Tryz.underlying22 rfl) ?_
        refine WL.p rfl rfl rfl (P.move rfl) ?_
        refine WL.nil_ ?_
        refine End.seq ?_
        refine WC.block ?_
        refine WC.loopD (σ := Nat × Array MapEntry × Nat) (fun (i, es, c) => [(48, .int .i64 (i : Nat))]) (fun (i, es, c) => [.row 3 1 (.slice (some ⟨q2, 0, none⟩) (xs ++ ls).length cap2) (xs ++ ls).length (ints (xs ++ ls)), .map b41 es c, .blk b7 34 ((zE (rrollP e xs ls) e).cells (zV (rrollP e xs ls) (.slice A1 e.alt.length c1)) (zV (rrollP e xs ls) (.slice A2 e.grants.length c2))), it1, it2, .blk b3 34 (e.cells (.slice A1 e.alt.length c1) (.slice A2 e.grants.length c2))]) (fun (i, es, c) => i ≤ (xs ++ ls).length ∧ IntSet es ((xs ++ ls).take i)) (fun (i, es, c) => (xs ++ ls).length - i) (0, #[], 0) ⟨Nat.zero_le _, IntSet.nil⟩ (Env.sub_cons rfl (Env.sub_nil)) [0, 1, 2, 3, 4, 5] rfl rfl ?_
        rintro ⟨i, es, c⟩ ⟨hi, hset⟩
        refine WC.seq ?_
        refine WC.region ?_
        refine WL.p rfl rfl rfl (P.cmp rfl rfl rfl) ?_
        refine WL.nil_ ?_
        refine End.seq ?_
        refine WC.seq ?_
        refine WC.cond rfl (fun hc49 => ?_) (fun hc49 => ?_)
        ·
          have hik : i < (xs ++ ls).length := by have := of_decide_eq_true hc49; omega
          obtain ⟨x, hx⟩ := get_of_lt (xs := (xs ++ ls)) (k := i) hik
          refine WC.skip ?_
          refine End.seq ?_
          refine WC.seq ?_
          refine WC.block ?_
          refine WC.seq ?_
          refine WC.region ?_
          refine WL.p rfl rfl rfl (P.elemAddr Tryz.underlying22 Tryz.sizeOf3 rfl rfl (by omega) (by omega)) ?_
          refine WL.p rfl rfl rfl (P.loadR 0 Tryz.isAgg3 rfl rfl (off := 0 + (i : Int).toNat * 1) (by simpa using ints_get hx)) ?_
          refine WL.p rfl rfl rfl (P.assign rfl) ?_
          refine WL.nil_ ?_
          refine End.seq ?_
          refine WC.region ?_
          refine WL.p rfl rfl rfl (P.move rfl) ?_
          refine WL.p rfl rfl rfl (P.move rfl) ?_
          refine WL.putInt 1 Tryz.underlying41 Tryz.underlying3 rfl rfl rfl rfl rfl hset (fun es' c' hset' => ?_)
          refine WL.nil_ ?_
          refine End.blkN ?_
          refine End.seq ?_
          refine WC.region ?_
          refine WL.p rfl rfl rfl (P.ari64 rfl rfl rfl (by omega)) ?_
          refine WL.p rfl rfl rfl (P.move rfl) ?_
          refine WL.nil_ ?_
          refine End.againD (i + 1, es', c') ?_ ?_ rfl (Env.sub_cons rfl (Env.sub_nil)) rfl [0, 1, 2, 3, 4, 5] rfl rfl
          · exact ⟨by omega, by rw [take_snoc hx]; exact hset'⟩
          · show (xs ++ ls).length - (i + 1) < (xs ++ ls).length - i; omega
        ·
          have hset2 : IntSet es (xs ++ ls) := by rw [List.take_of_length_le (by have := of_decide_eq_false hc49; omega)] at hset; exact hset
          refine WC.exit ?_
          refine End.thenX ?_
          refine End.thenX ?_
          refine End.blkX ?_
          refine End.seq ?_
          refine WC.seq ?_
          refine WC.seq ?_
          refine WC.region ?_
          refine WL.p rfl rfl rfl (P.move rfl) ?_
          refine WL.p rfl rfl rfl (P.lenR Tryz.underlying22 rfl) ?_
          refine WL.p rfl rfl rfl (P.move rfl) ?_
          refine WL.nil_ ?_
          refine End.seq ?_
          refine WC.block ?_
          refine WC.loopD (σ := Nat) (fun k => [(57, .int .i64 (k : Nat))]) (fun k => _) (fun k => k ≤ (zL (rrollP e xs ls)).length) (fun k => (zL (rrollP e xs ls)).length - k) 0 (Nat.zero_le _) (Env.sub_cons rfl (Env.sub_nil)) [0, 1, 2, 3, 4, 5] rfl rfl ?_
          rintro k hk
          refine WC.seq ?_
          refine WC.region ?_
          refine WL.p rfl rfl rfl (P.cmp rfl rfl rfl) ?_
          refine WL.nil_ ?_
          refine End.seq ?_
          refine WC.seq ?_
          refine WC.cond rfl (fun hc58 => ?_) (fun hc58 => ?_)
          ·
            have hkl : k < (zL (rrollP e xs ls)).length := by have := of_decide_eq_true hc58; omega
            obtain ⟨x, hx⟩ := get_of_lt (xs := (zL (rrollP e xs ls))) (k := k) hkl
            have hxin := hfa.2.1 x (List.mem_of_getElem? hx)
            refine WC.know (φ := ∃ b off, Ap = some ⟨b, off, none⟩) (fun w hs => by obtain ⟨b, off, h9, _⟩ := (hp.1 _ _ (hs.sel [3, 4] rfl)).at_ (by show 0 < (zL (rrollP e xs ls)).length; omega); exact ⟨b, off, h9⟩) (fun hAp => ?_)
            obtain ⟨bn, on, rfl⟩ := hAp
            refine WC.skip ?_
            refine End.seq ?_
            refine WC.seq ?_
            refine WC.block ?_
            refine WC.seq ?_
            refine WC.region ?_
            refine WL.p rfl rfl rfl (P.elemAddr Tryz.underlying22 Tryz.sizeOf3 rfl rfl (by omega) (by omega)) ?_
            refine WL.p rfl rfl rfl (P.loadH Tryz.isAgg3 rfl (fun w hs => Sl.elI (hp.1 _ _ (hs.sel [3, 4] rfl)) (by omega) (by simpa using hx))) ?_
            refine WL.p rfl rfl rfl (P.assign rfl) ?_
            refine WL.nil_ ?_
            refine End.seq ?_
            refine WC.seq ?_
            refine WC.region ?_
            refine WL.p rfl rfl rfl (P.move rfl) ?_
            refine WL.p rfl rfl rfl (P.move rfl) ?_
            refine WL.p rfl rfl rfl (P.hasInt 1 Tryz.underlying41 Tryz.underlying3 Tryz.zeroValue4 rfl rfl rfl hset2) ?_
            refine WL.p rfl rfl rfl (P.not_ rfl) ?_
            refine WL.nil_ ?_
            refine End.seq ?_
            refine WC.cond rfl (fun hc64 => ?_) (fun hc64 => ?_)
            ·
              refine WC.seq ?_
              refine WC.region ?_
              refine WL.p rfl rfl rfl (P.assign rfl) ?_
              refine WL.nil_ ?_
              refine End.seq ?_
              refine WC.ret ?_
              refine End.blkR ?_
              refine End.thenR ?_
              refine End.thenR ?_
              refine End.blkR ?_
              refine End.thenR ?_
              refine End.ret1 rfl rfl ?_
              exact absurd hc64 (by rw [decide_eq_true hxin]; simp)
            ·
              refine WC.skip ?_
              refine End.blkN ?_
              refine End.seq ?_
              refine WC.region ?_
              refine WL.p rfl rfl rfl (P.ari64 rfl rfl rfl (by omega)) ?_
              refine WL.p rfl rfl rfl (P.move rfl) ?_
              refine WL.nil_ ?_
              refine End.againD (k + 1) ?_ ?_ rfl (Env.sub_cons rfl (Env.sub_nil)) rfl [0, 1, 2, 3, 4, 5] rfl rfl
              · exact (by omega : k + 1 ≤ (zL (rrollP e xs ls)).length)
              · omega
          ·
            refine WC.know (φ := 0 < (zL (rrollP e xs ls)).length → ∃ b off, Ap = some ⟨b, off, none⟩) (fun w hs hpos => by obtain ⟨b, off, h9, _⟩ := (hp.1 _ _ (hs.sel [3, 4] rfl)).at_ hpos; exact ⟨b, off, h9⟩) (fun hAp => ?_)
            refine WC.exit ?_
            refine End.thenX ?_
            refine End.thenX ?_
            refine End.blkX ?_
            refine End.seq ?_
            refine WC.seq ?_
            refine WC.seq ?_
            refine WC.quiet (by kernel_rfl) ?_
            refine WQ.p rfl rfl rfl (P.move rfl) ?_
            refine WQ.p rfl rfl rfl (P.lenR Tryz.underlying22 rfl) ?_
            refine WQ.p rfl rfl rfl (P.cmp rfl rfl rfl) ?_
            refine WQ.p rfl rfl rfl (P.move rfl) ?_
            refine WQ.split 69 rfl (fun hs69 => ?_) (fun hs69 => ?_)
            ·
              have hlp : 0 < ls.length := by have := of_decide_eq_true hs69; omega
              obtain ⟨g1, g2, g3, g4, g5⟩ := hfa.2.2.2.2.resolve_left (fun h => by rw [h] at hlp; cases hlp)
              obtain ⟨bn, on, rfl⟩ := hAp g2
              obtain ⟨b9, o9, rfl, hc9⟩ := hr9.at_ hlp
              refine WQ.p rfl rfl rfl (P.move rfl) ?_
              refine WQ.p rfl rfl rfl (P.lenR Tryz.underlying22 rfl) ?_
              refine WQ.p rfl rfl rfl (P.fieldAddr fa_34_5 rfl) ?_
              refine WQ.p rfl rfl rfl (P.loadO 2 Tryz.isAgg3 rfl rfl rfl) ?_
              refine WQ.p rfl rfl rfl (P.cmp rfl rfl rfl) ?_
              refine WQ.p rfl rfl rfl (P.move rfl) ?_
              refine WQ.split 75 rfl (fun hs75 => ?_) (fun hs75 => ?_)
              ·
                exact absurd (of_decide_eq_true hs75) (by rw [hfa.2.2.2.1]; omega)
              ·
                refine WQ.p rfl rfl rfl (P.move rfl) ?_
                refine WQ.p rfl rfl rfl (P.lenR Tryz.underlying22 rfl) ?_
                refine WQ.p rfl rfl rfl (P.cmp rfl rfl rfl) ?_
                refine WQ.p rfl rfl rfl (P.pickF rfl rfl) ?_
                refine WQ.p rfl rfl rfl (P.move rfl) ?_
                refine WQ.split 80 rfl (fun hs80 => ?_) (fun hs80 => ?_)
                ·
                  exact absurd (of_decide_eq_true hs80) (by omega)
                ·
                  refine WQ.p rfl rfl rfl (P.move rfl) ?_
                  refine WQ.p rfl rfl rfl (P.move rfl) ?_
                  refine WQ.p rfl rfl rfl (P.lenR Tryz.underlying22 rfl) ?_
                  refine WQ.p rfl rfl rfl (P.ari64 rfl rfl rfl (by omega)) ?_
                  refine WQ.p rfl rfl rfl (P.elemAddr Tryz.underlying22 Tryz.sizeOf3 rfl rfl (by omega) (by omega)) ?_
                  refine WQ.p rfl rfl rfl (P.loadH Tryz.isAgg3 rfl (fun w hs => Sl.elI (hp.1 _ _ (hs.sel [3, 4] rfl)) (by omega) (by rw [show (((zL (rrollP e xs ls)).length : Int) - 1).toNat = (zL (rrollP e xs ls)).length - 1 by omega]; exact g3))) ?_
                  refine WQ.p rfl rfl rfl (P.move rfl) ?_
                  refine WQ.p rfl rfl rfl (P.move rfl) ?_
                  refine WQ.p rfl rfl rfl (P.lenR Tryz.underlying22 rfl) ?_
                  refine WQ.p rfl rfl rfl (P.ari64 rfl rfl rfl (by omega)) ?_
                  refine WQ.p rfl rfl rfl (P.elemAddr Tryz.underlying22 Tryz.sizeOf3 rfl rfl (by omega) (by omega)) ?_
                  refine WQ.p rfl rfl rfl (P.loadH Tryz.isAgg3 rfl (fun w hs => Sl.elI (hr9.st hs) (by omega) (by rw [show ((ls.length : Int) - 1).toNat = ls.length - 1 by omega]; exact g4))) ?_
                  refine WQ.p rfl rfl rfl (P.cmp rfl rfl rfl) ?_
                  refine WQ.p rfl rfl rfl (P.pickF rfl rfl) ?_
                  refine WQ.p rfl rfl rfl (P.move rfl) ?_
                  refine WQ.split 95 rfl (fun hs95 => ?_) (fun hs95 => ?_)
                  ·
                    exact absurd hs95 (by simp)
                  ·
                    refine WQ.p rfl rfl rfl (P.fieldAddr fa_34_6 rfl) ?_
                    refine WQ.p rfl rfl rfl (P.loadO 2 Tryz.isAgg3 rfl rfl rfl) ?_
                    refine WQ.p rfl rfl rfl (P.move rfl) ?_
                    refine WQ.p rfl rfl rfl (P.move rfl) ?_
                    refine WQ.p rfl rfl rfl (P.lenR Tryz.underlying22 rfl) ?_
                    refine WQ.p rfl rfl rfl (P.ari64 rfl rfl rfl (by omega)) ?_
                    refine WQ.p rfl rfl rfl (P.elemAddr Tryz.underlying22 Tryz.sizeOf3 rfl rfl (by omega) (by omega)) ?_
                    refine WQ.p rfl rfl rfl (P.loadH Tryz.isAgg3 rfl (fun w hs => Sl.elI (hr9.st hs) (by omega) (by rw [show ((ls.length : Int) - 1).toNat = ls.length - 1 by omega]; exact g4))) ?_
                    refine WQ.p rfl rfl rfl (P.cmp rfl rfl rfl) ?_
                    refine WQ.p rfl rfl rfl (P.pickF rfl rfl) ?_
                    refine WQ.p rfl rfl rfl (P.pickT rfl rfl) ?_
                    refine WQ.nil_ ?_
                    refine End.seq ?_
                    refine WC.cond rfl (fun hc106 => ?_) (fun hc106 => ?_)
                    ·
                      refine WC.seq ?_
                      refine WC.region ?_
                      refine WL.p rfl rfl rfl (P.assign rfl) ?_
                      refine WL.nil_ ?_
                      refine End.seq ?_
                      refine WC.ret ?_
                      refine End.thenR ?_
                      refine End.ret1 rfl rfl ?_
                      exact absurd hc106 (by simp)
                    ·
                      refine WC.skip ?_
                      refine End.seq ?_
                      refine WC.seq ?_
                      refine WC.region ?_
                      refine WL.p rfl rfl rfl (P.loadW 2 Tryz.isAgg34 Tryz.sizeOf34 rfl rfl rfl) ?_
                      refine WL.alloc Tryz.zeroValue34 rfl rfl (fun b15 => ?_)
                      refine WL.storeW 0 Tryz.sizeOf34 rfl rfl rfl (E.one _ (zV_one rfl) (zV_one rfl)) rfl rfl rfl ?_
                      refine WL.nil_ ?_
                      refine End.seq ?_
                      refine WC.seq ?_
                      refine WC.region ?_
                      refine WL.p rfl rfl rfl (P.fieldAddr fa_34_6 rfl) ?_
                      refine WL.p rfl rfl rfl (P.loadO 6 Tryz.isAgg3 rfl rfl rfl) ?_
                      refine WL.p rfl rfl rfl (P.fieldAddr fa_34_6 rfl) ?_
                      refine WL.store 0 Tryz.sizeOf3 rfl rfl rfl rfl rfl rfl ?_
                      refine WL.nil_ ?_
                      refine End.seq ?_
                      refine WC.seq ?_
                      refine WC.region ?_
                      refine WL.p rfl rfl rfl (P.loadW 3 Tryz.isAgg34 Tryz.sizeOf34 rfl rfl rfl) ?_
                      refine WL.p rfl rfl rfl (P.move rfl) ?_
                      refine WL.callv (ent_of Tryz.func35 rfl rfl) rfl rfl rfl (fun w hs => genValid_any (zE (rrollP e xs ls) e) (zV (rrollP e xs ls) (.slice A1 e.alt.length c1)) (zV (rrollP e xs ls) (.slice A2 e.grants.length c2)) _ _ (zL (rrollP e xs ls)) w (hg.st hs) (zEnt (rrollP e xs ls) (ha0.st hs)) (hp.1 _ _ (hs.sel [4, 5] rfl))) ?_
                      refine WL.p rfl rfl rfl (P.move rfl) ?_
                      refine WL.split 114 rfl (fun hs114 => ?_) (fun hs114 => ?_)
                      ·
                        refine WL.p rfl rfl rfl (P.loadW 0 Tryz.isAgg34 Tryz.sizeOf34 rfl rfl rfl) ?_
                        refine WL.p rfl rfl rfl (P.loadW 6 Tryz.isAgg34 Tryz.sizeOf34 rfl rfl rfl) ?_
                        refine WL.callv (ent_of Tryz.func34 rfl rfl) rfl rfl rfl (fun w hs => same_any { zE (rrollP e xs ls) e with last := e.last } e (zV (rrollP e xs ls) (.slice A1 e.alt.length c1)) (zV (rrollP e xs ls) (.slice A2 e.grants.length c2)) (.slice A1 e.alt.length c1) (.slice A2 e.grants.length c2) w ⟨(zEnt (rrollP e xs ls) (ha0.st hs)).alt, (zEnt (rrollP e xs ls) (ha0.st hs)).gr⟩ (ha0.st hs)) ?_
                        refine WL.p rfl rfl rfl (P.pickT rfl rfl) ?_
                        refine WL.p rfl rfl rfl (P.assign rfl) ?_
                        refine WL.nil_ ?_
                        refine End.seq ?_
                        refine WC.ret ?_
                        refine End.ret1 rfl rfl ?_
                        exact fun w' hs' => RetV.of (by rw [decide_eq_true hfa.2.2.1]) hs'
                      ·
                        refine WL.off rfl rfl ?_
                        refine WL.off rfl rfl ?_
                        refine WL.off rfl rfl ?_
                        refine WL.p rfl rfl rfl (P.pickF rfl rfl) ?_
                        refine WL.p rfl rfl rfl (P.assign rfl) ?_
                        refine WL.nil_ ?_
                        refine End.seq ?_
                        refine WC.ret ?_
                        refine End.ret1 rfl rfl ?_
                        exact absurd hs114 (by rw [genV_eq, hfa.1]; simp)
            ·
              refine WQ.off rfl rfl ?_
              refine WQ.off rfl rfl ?_
              refine WQ.off rfl rfl ?_
              refine WQ.off rfl rfl ?_
              refine WQ.off rfl rfl ?_
              refine WQ.off rfl rfl ?_
              refine WQ.offU rfl rfl ?_
              refine WQ.offU rfl rfl ?_
              refine WQ.offU rfl rfl ?_
              refine WQ.off rfl rfl ?_
              refine WQ.off rfl rfl ?_
              refine WQ.offU rfl rfl ?_
              refine WQ.offU rfl rfl ?_
              refine WQ.offU rfl rfl ?_
              refine WQ.offU rfl rfl ?_
              refine WQ.offU rfl rfl ?_
              refine WQ.offU rfl rfl ?_
              refine WQ.offU rfl rfl ?_
              refine WQ.offU rfl rfl ?_
              refine WQ.offU rfl rfl ?_
              refine WQ.offU rfl rfl ?_
              refine WQ.offU rfl rfl ?_
              refine WQ.offU rfl rfl ?_
              refine WQ.offU rfl rfl ?_
              refine WQ.off rfl rfl ?_
              refine WQ.off rfl rfl ?_
              refine WQ.offU rfl rfl ?_
              refine WQ.offU rfl rfl ?_
              refine WQ.offU rfl rfl ?_
              refine WQ.offU rfl rfl ?_
              refine WQ.offU rfl rfl ?_
              refine WQ.offU rfl rfl ?_
              refine WQ.offU rfl rfl ?_
              refine WQ.offU rfl rfl ?_
              refine WQ.offU rfl rfl ?_
              refine WQ.off rfl rfl ?_
              refine WQ.p rfl rfl rfl (P.pickF rfl rfl) ?_
              refine WQ.nil_ ?_
              refine End.seq ?_
              refine WC.condF rfl ?_
              refine WC.skip ?_
              refine End.seq ?_
              refine WC.seq ?_
              refine WC.region ?_
              refine WL.p rfl rfl rfl (P.loadW 2 Tryz.isAgg34 Tryz.sizeOf34 rfl rfl rfl) ?_
              refine WL.alloc Tryz.zeroValue34 rfl rfl (fun b15 => ?_)
              refine WL.storeW 0 Tryz.sizeOf34 rfl rfl rfl (E.one _ (zV_one rfl) (zV_one rfl)) rfl rfl rfl ?_
              refine WL.nil_ ?_
              refine End.seq ?_
              refine WC.seq ?_
              refine WC.region ?_
              refine WL.p rfl rfl rfl (P.fieldAddr fa_34_6 rfl) ?_
              refine WL.p rfl rfl rfl (P.loadO 6 Tryz.isAgg3 rfl rfl rfl) ?_
              refine WL.p rfl rfl rfl (P.fieldAddr fa_34_6 rfl) ?_
              refine WL.store 0 Tryz.sizeOf3 rfl rfl rfl rfl rfl rfl ?_
              refine WL.nil_ ?_
              refine End.seq ?_
              refine WC.seq ?_
              refine WC.region ?_
              refine WL.p rfl rfl rfl (P.loadW 3 Tryz.isAgg34 Tryz.sizeOf34 rfl rfl rfl) ?_
              refine WL.p rfl rfl rfl (P.move rfl) ?_
              refine WL.callv (ent_of Tryz.func35 rfl rfl) rfl rfl rfl (fun w hs => genValid_any (zE (rrollP e xs ls) e) (zV (rrollP e xs ls) (.slice A1 e.alt.length c1)) (zV (rrollP e xs ls) (.slice A2 e.grants.length c2)) _ _ (zL (rrollP e xs ls)) w (hg.st hs) (zEnt (rrollP e xs ls) (ha0.st hs)) (hp.1 _ _ (hs.sel [4, 5] rfl))) ?_
              refine WL.p rfl rfl rfl (P.move rfl) ?_
              refine WL.split 114 rfl (fun hs114 => ?_) (fun hs114 => ?_)
              ·
                refine WL.p rfl rfl rfl (P.loadW 0 Tryz.isAgg34 Tryz.sizeOf34 rfl rfl rfl) ?_
                refine WL.p rfl rfl rfl (P.loadW 6 Tryz.isAgg34 Tryz.sizeOf34 rfl rfl rfl) ?_
                refine WL.callv (ent_of Tryz.func34 rfl rfl) rfl rfl rfl (fun w hs => same_any { zE (rrollP e xs ls) e with last := e.last } e (zV (rrollP e xs ls) (.slice A1 e.alt.length c1)) (zV (rrollP e xs ls) (.slice A2 e.grants.length c2)) (.slice A1 e.alt.length c1) (.slice A2 e.grants.length c2) w ⟨(zEnt (rrollP e xs ls) (ha0.st hs)).alt, (zEnt (rrollP e xs ls) (ha0.st hs)).gr⟩ (ha0.st hs)) ?_
                refine WL.p rfl rfl rfl (P.pickT rfl rfl) ?_
                refine WL.p rfl rfl rfl (P.assign rfl) ?_
                refine WL.nil_ ?_
                refine End.seq ?_
                refine WC.ret ?_
                refine End.ret1 rfl rfl ?_
                exact fun w' hs' => RetV.of (by rw [decide_eq_true hfa.2.2.1]) hs'
              ·
                refine WL.off rfl rfl ?_
                refine WL.off rfl rfl ?_
                refine WL.off rfl rfl ?_
                refine WL.p rfl rfl rfl (P.pickF rfl rfl) ?_
                refine WL.p rfl rfl rfl (P.assign rfl) ?_
                refine WL.nil_ ?_
                refine End.seq ?_
                refine WC.ret ?_
                refine End.ret1 rfl rfl ?_
                exact absurd hs114 (by rw [genV_eq, hfa.1]; simp)

end Go.Proofs.YtlkkiimmangplaaGreatDoor
