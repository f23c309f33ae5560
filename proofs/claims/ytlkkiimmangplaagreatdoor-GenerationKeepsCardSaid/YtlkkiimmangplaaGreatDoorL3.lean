/- New generations in plain words: the program's and the reference's do the same. -/
import Derived.Test.YtlkkiimmangplaaGreatDoorL2
import Derived.Test.YtlkkiimmangplaaGreatDoorP20
namespace Go.Proofs.YtlkkiimmangplaaGreatDoor
open Go.RowKit
set_option linter.unusedVariables false
set_option linter.unusedSimpArgs false

theorem fitsFrom_mono : ∀ {l : List Int} {b b' r : Int}, b' ≤ b → fitsFrom b l = some r → ∃ r', fitsFrom b' l = some r' ∧ r' ≤ r
  | [], b, b', r, h, hr => by
    simp [fitsFrom] at hr
    exact ⟨b', rfl, by omega⟩
  | x :: l, b, b', r, h, hr => by
    unfold fitsFrom at hr ⊢
    split at hr
    · cases hr
    · rename_i hx
      rw [if_neg (by omega)]
      exact ⟨r, hr, Int.le_refl _⟩
theorem fitsFrom_drop : ∀ (m : Nat) {l : List Int} {b r : Int}, fitsFrom b l = some r → ∃ r', fitsFrom b (l.drop m) = some r' ∧ r' ≤ r
  | 0, l, b, r, h => ⟨r, h, Int.le_refl _⟩
  | m + 1, [], b, r, h => ⟨r, h, Int.le_refl _⟩
  | m + 1, x :: l, b, r, h => by
    unfold fitsFrom at h
    split at h
    · cases h
    · rename_i hx
      obtain ⟨r1, h1, h2⟩ := fitsFrom_drop m h
      obtain ⟨r2, h3, h4⟩ := fitsFrom_mono (b' := b) (by omega) h1
      exact ⟨r2, h3, by omega⟩
theorem fits_iff {l : List Int} {last : Int} : fits l last = true ↔ ∃ r, fitsFrom 0 l = some r ∧ r ≤ last := by
  cases h : fitsFrom 0 l with
  | none => rw [fits_none h]; simp
  | some b => rw [fits_some h]; simp
theorem fits_drop {l : List Int} {last : Int} (m : Nat) (h : fits l last = true) : fits (l.drop m) last = true := by
  obtain ⟨r, h1, h2⟩ := fits_iff.1 h
  obtain ⟨r', h3, h4⟩ := fitsFrom_drop m h1
  exact fits_iff.2 ⟨r', h3, by omega⟩
theorem fits_snoc {l : List Int} {last n : Int} (h : fits l last = true) (hn : last < n) : fits (l ++ [n]) n = true := by
  obtain ⟨r, h1, h2⟩ := fits_iff.1 h
  refine fits_iff.2 ⟨n, ?_, Int.le_refl _⟩
  rw [fitsFrom_app, h1]
  show (if n ≤ r then none else some n) = some n
  rw [if_neg (by omega)]
/-- A group stays valid when its last number grows within the range. -/
theorem rgroupV_last {e : E} {n : Int} (hk : e.kind = 1) (h : rgroupV e = true) (h0 : 0 ≤ n) (h1 : n ≤ 9999) : rgroupV { e with last := n } = true := by
  unfold rgroupV at h ⊢
  simp only [Bool.and_eq_true, decide_eq_true_eq] at h ⊢
  obtain ⟨hu, hg, hl, hl2, _, _, ho⟩ := h
  refine ⟨?_, hg, hl, hl2, h0, h1, ho⟩
  have e1 : e.uses = { E.zero with kind := e.kind, name := e.name, limit := e.limit, last := e.last, empty := e.empty, owner := e.owner } := by
    unfold E.uses
    rw [if_neg (by omega), if_pos hk]
  have e2 : ({ e with last := n } : E).uses = { E.zero with kind := e.kind, name := e.name, limit := e.limit, last := n, empty := e.empty, owner := e.owner } := by
    unfold E.uses
    rw [if_neg (by simp only; omega), if_pos hk]
  rw [e2]
  rw [e1] at hu
  have h3 := congrArg (fun x : E => ({ x with last := n } : E)) hu
  exact h3
theorem rgenV_step {e : E} {last n : Int} {now : List Int} (m : Nat) (h : rgenV { e with last := last } now = true) (h0 : last < n) (h1 : n ≤ 9999) : rgenV { e with last := n } (now.drop m ++ [n]) = true := by
  unfold rgenV at h ⊢
  simp only [Bool.and_eq_true, decide_eq_true_eq] at h ⊢
  obtain ⟨hk, hv, hf⟩ := h
  have hl := rgroupV_lim hv
  have h2 : 0 ≤ last := hl.2.1
  exact ⟨hk, rgroupV_last (e := { e with last := last }) hk hv (by omega) h1, fits_snoc (fits_drop m hf) h0⟩
/-- One new generation: both roads. -/
theorem step_eq {e : E} {last n : Int} {now gone : List Int} (h : rgenV { e with last := last } now = true) :
    (∃ c, rollStep e.limit e.empty (last, now, gone) n = .error c ∧ rstep e (last, now) n = .error c) ∨
    (∃ m, m ≤ now.length ∧ rollStep e.limit e.empty (last, now, gone) n = .ok (n, now.drop m ++ [n], gone ++ now.take m) ∧ rin { e with last := last } now n = .ok (now.take m) ∧ rstep e (last, now) n = .ok (n, now.drop m ++ [n]) ∧ rgenV { e with last := n } (now.drop m ++ [n]) = true ∧ last < n ∧ 1 ≤ n ∧ n ≤ 9999 ∧
      m = (if e.empty = true ∧ 0 < (now.length : Int) + 1 - e.limit then now.length else mx0 ((now.length : Int) + 1 - e.limit))) := by
  have hl := rgenV_lim h
  have hl1 : 1 ≤ e.limit ∧ e.limit ≤ 63 := hl.1
  by_cases h1 : n < 1 ∨ 9999 < n
  · refine .inl ⟨2, by rw [rollStep, if_pos h1], ?_⟩
    exact rstep_err (by rw [rin, if_neg (by rw [h]; simp), if_pos h1])
  · by_cases h2 : n ≤ last
    · refine .inl ⟨9, by rw [rollStep, if_neg h1, if_pos h2], ?_⟩
      exact rstep_err (by rw [rin, if_neg (by rw [h]; simp), if_neg h1, if_pos h2])
    · right
      have hlen : ((now ++ [n]).length : Int) = (now.length : Int) + 1 := by simp
      generalize hm : (if e.empty = true ∧ 0 < (now.length : Int) + 1 - e.limit then now.length else mx0 ((now.length : Int) + 1 - e.limit)) = m
      have hmc : mx0 (cntG e.limit e.empty now.length) = m := by
        rw [← hm]
        unfold cntG
        by_cases hc : e.empty = true ∧ 0 < (now.length : Int) + 1 - e.limit
        · rw [if_pos hc, if_pos ⟨hc.2, hc.1⟩]
          unfold mx0
          split <;> omega
        · rw [if_neg hc, if_neg (fun h => hc ⟨h.2, h.1⟩)]
      have hmle : m ≤ now.length := by
        rw [← hm]
        split
        · exact Nat.le_refl _
        · unfold mx0
          split <;> omega
      have hrin : rin { e with last := last } now n = .ok (now.take m) := by
        rw [rin, if_neg (by rw [h]; simp), if_neg h1, if_neg h2]
        show Except.ok (now.take (mx0 (cntG e.limit e.empty now.length))) = _
        rw [hmc]
      have hgl : (now.take m).length = m := by rw [List.length_take]; omega
      refine ⟨m, hmle, ?_, hrin, ?_, rgenV_step m h (by omega) (by omega), by omega, by omega, by omega, rfl⟩
      · by_cases h3 : ((now ++ [n]).length : Int) - e.limit ≤ 0
        · have hm0 : m = 0 := by
            rw [← hm, if_neg (by omega)]
            unfold mx0
            rw [if_neg (by omega)]; rfl
          rw [step_none (s := (last, now, gone)) h1 h2 h3, hm0]
          simp
        · have hmi : (m : Int) = if e.empty = true then ((now ++ [n]).length : Int) - 1 else ((now ++ [n]).length : Int) - e.limit := by
            rw [← hm]
            by_cases he : e.empty = true
            · rw [if_pos ⟨he, by omega⟩, if_pos he]; omega
            · rw [if_neg (fun hc => he hc.1), if_neg he]
              unfold mx0
              rw [if_pos (by omega)]
              omega
          rw [step_drop (s := (last, now, gone)) (m := m) h1 h2 (by simp only; omega) hmi]
          simp only
          rw [List.drop_append_of_le_length hmle, List.take_append_of_le_length hmle]
      · unfold rstep
        rw [hrin]
        show Except.ok (n, now.drop (now.take m).length ++ [n]) = _
        rw [hgl]
/-- Several new generations: both roads. -/
theorem roll_eq (e : E) : ∀ (ls : List Int) (last : Int) (now gone : List Int), rgenV { e with last := last } now = true →
    (match roll e.limit e.empty (last, now, gone) ls with | .error c => .error c | .ok (l, n, _) => .ok (l, n)) = rroll e (last, now) ls
  | [], last, now, gone, _ => rfl
  | n :: ls, last, now, gone, h => by
    rcases step_eq (n := n) (gone := gone) h with ⟨c, h1, h2⟩ | ⟨m, hm, h1, _, h2, h3, _⟩
    · simp only [roll, rroll, h1, h2]
    · simp only [roll, rroll, h1, h2]
      exact roll_eq e ls n _ _ h3
theorem fold_eq (e : E) (xs ls : List Int) : (match foldP e xs ls with | .error c => .error c | .ok (l, n, _) => .ok (l, n)) = rrollP e xs ls := by
  unfold foldP rrollP
  rw [genV_eq]
  cases h : rgenV e xs with
  | false => rfl
  | true => simpa using roll_eq e ls e.last xs [] h
theorem fold1_eq (e : E) (xs : List Int) (n : Int) : (match foldP e xs [n] with | .error c => .error c | .ok (_, _, g) => .ok g) = rin e xs n := by
  unfold foldP
  rw [genV_eq]
  cases h : rgenV e xs with
  | false => rw [if_neg (by simp), rin, if_pos h]
  | true =>
    rw [if_pos rfl]
    rcases step_eq (e := e) (last := e.last) (n := n) (now := xs) (gone := []) h with ⟨c, h1, h2⟩ | ⟨m, hm, h1, h2, _⟩
    · simp only [roll, h1]
      unfold rstep at h2
      cases hr : rin ({ e with last := e.last } : E) xs n with
      | error d =>
        rw [show ({ e with last := (e.last, xs).1 } : E) = { e with last := e.last } from rfl, show (e.last, xs).2 = xs from rfl, hr] at h2
        cases h2
        rfl
      | ok g =>
        rw [show ({ e with last := (e.last, xs).1 } : E) = { e with last := e.last } from rfl, show (e.last, xs).2 = xs from rfl, hr] at h2
        cases h2
    · simp only [roll, h1]
      exact h2.symm
theorem fold1_last {e : E} {xs now gone : List Int} {n last : Int} (h : foldP e xs [n] = .ok (last, now, gone)) : last = n := by
  unfold foldP at h
  split at h
  · rename_i hv
    rw [genV_eq] at hv
    rcases step_eq (e := e) (last := e.last) (n := n) (now := xs) (gone := []) hv with ⟨c, h1, h2⟩ | ⟨m, hm, h1, h2, _⟩
    · simp only [roll, h1] at h; cases h
    · simp only [roll, h1] at h; cases h; rfl
  · cases h
end Go.Proofs.YtlkkiimmangplaaGreatDoor
