/- Names in plain words: the program's and the reference's say the same. -/
import Derived.Test.YtlkkiimmangplaaGreatDoorL1
import Derived.Test.YtlkkiimmangplaaGreatDoorP18
import Derived.Lib.IndexBytes
namespace Go.Proofs.YtlkkiimmangplaaGreatDoor
open Go.RowKit
set_option linter.unusedVariables false
set_option linter.unusedSimpArgs false

theorem idx_cases (c : UInt8) : ∀ l : List UInt8, (Lib.indexByte l c = -1 ∧ c ∉ l) ∨ ∃ a r, l = a ++ c :: r ∧ c ∉ a ∧ Lib.indexByte l c = a.length
  | [] => .inl ⟨rfl, by simp⟩
  | b :: l => by
    by_cases hb : b = c
    · subst hb
      exact .inr ⟨[], l, rfl, by simp, by simp [Lib.indexByte]⟩
    · have hbc : (b == c) = false := by simpa using hb
      rcases idx_cases c l with ⟨h1, h2⟩ | ⟨a, r, rfl, h2, h3⟩
      · refine .inl ⟨by simp [Lib.indexByte, hbc, h1], by simp [h2]; exact fun e => hb e.symm⟩
      · refine .inr ⟨b :: a, r, rfl, by simp [h2]; exact fun e => hb e.symm, ?_⟩
        have hne : ¬ (Lib.indexByte (a ++ c :: r) c == -1) = true := by rw [h3]; simp
        unfold Lib.indexByte
        rw [hbc, if_neg (by simp), if_neg hne, h3]
        simp
theorem sp_dotless : ∀ l : List UInt8, (46 : UInt8) ∉ l → sp l = [l]
  | [], _ => rfl
  | c :: r, h => by
    have hc : ¬ c = 46 := fun e => h (by simp [e])
    rw [sp, if_neg hc, sp_dotless r (fun h' => h (by simp [h']))]
theorem sp_at : ∀ (a r : List UInt8), (46 : UInt8) ∉ a → sp (a ++ 46 :: r) = a :: sp r
  | [], r, _ => by simp [sp]
  | c :: a, r, h => by
    have hc : ¬ c = 46 := fun e => h (by simp [e])
    rw [List.cons_append, sp, if_neg hc, sp_at a r (fun h' => h (by simp [h']))]
theorem indexB_dot (s : ByteArray) : Lib.indexB s dot = Lib.indexByte s.data.toList 46 := by
  have h := Go.Lib.one s dot rfl
  exact h
theorem mkB_data (s : ByteArray) : mkB s.data.toList = s := by
  apply toList_inj.1
  rw [ByteArray.toList_eq]
theorem extract_data (s : ByteArray) (a b : Nat) : (s.extract a b).data.toList = (s.data.toList.take b).drop a := by
  rw [← extract_bytes, ByteArray.toList_eq]
theorem eq_of_data {s t : ByteArray} (h : s.data.toList = t.data.toList) : s = t := by
  apply toList_inj.1
  rw [ByteArray.toList_eq, ByteArray.toList_eq, h]
theorem parts_sp : ∀ (k : Nat) (s : ByteArray), s.size ≤ k → parts s = spB s.data.toList
  | k, s, hk => by
    rcases idx_cases 46 s.data.toList with ⟨h1, h2⟩ | ⟨a, r, h1, h2, h3⟩
    · have hi : Lib.indexB s dot = -1 := by rw [indexB_dot, h1]
      unfold parts
      rw [Lib.countB_miss s dot hi, Lib.splitB_zero, spB, sp_dotless _ h2]
      simp [mkB_data]
    · have hi : Lib.indexB s dot = a.length := by rw [indexB_dot, h3]
      have hs : s.size = a.length + (1 + r.length) := by
        have : s.size = s.data.toList.length := rfl
        rw [this, h1]; simp; omega
      have e1 : s.extract 0 (a.length + 0) = mkB a := by
        apply eq_of_data
        rw [extract_data, h1]
        simp
      have e2 : (s.extract (a.length + dot.size) s.size).data.toList = r := by
        rw [extract_data, List.take_of_length_le (by rw [hs, h1]; simp; omega), h1]
        rw [show dot.size = 1 from rfl, ← List.drop_drop, List.drop_append_of_le_length (Nat.le_refl _)]
        simp
      have hlen : (s.extract (a.length + dot.size) s.size).size = r.length := by
        have : (s.extract (a.length + dot.size) s.size).size = (s.extract (a.length + dot.size) s.size).data.toList.length := rfl
        rw [this, e2]
      cases k with
      | zero => omega
      | succ k =>
        have ih := parts_sp k (s.extract (a.length + dot.size) s.size) (by omega)
        unfold parts at ih ⊢
        rw [Lib.countB_hit s dot a.length (by decide) hi, Nat.add_comm, Lib.splitB_hit _ _ _ _ _ hi, ih, e2, e1, h1]
        unfold spB
        rw [sp_at a r h2]
        rfl
theorem parts_eq (s : ByteArray) : parts s = spB s.data.toList := parts_sp s.size s (Nat.le_refl _)
/-- A part without stars, both ways. -/
theorem part_eq (s : ByteArray) : partB false s = nameQ s.data.toList := by
  have hs : s.size = s.data.toList.length := rfl
  unfold partB nameQ qualB
  rw [Bool.false_and, Bool.false_or, hs]
  generalize s.data.toList = l
  by_cases h1 : 1 ≤ l.length
  · rw [decide_eq_true h1, Bool.true_and, Bool.true_and]
    congr 1
    have hrange : (List.range l.length).all (okAt false l) = l.all (fun c => isUpper (c.toNat : Int) || isDigit (c.toNat : Int)) := by
      rw [Bool.eq_iff_iff, List.all_eq_true, List.all_eq_true]
      constructor
      · intro h c hc
        obtain ⟨k, hk, rfl⟩ := List.mem_iff_getElem.1 hc
        have := h k (List.mem_range.2 hk)
        simp [okAt, byteAt, List.getElem?_eq_getElem hk] at this
        simpa using this
      · intro h k hk
        have hk := List.mem_range.1 hk
        have := h l[k] (List.getElem_mem hk)
        simp [okAt, byteAt, List.getElem?_eq_getElem hk]
        simpa using this
    rw [hrange]
    cases l with
    | nil => simp at h1
    | cons c r =>
      simp only [List.all_cons, List.drop_succ_cons, List.drop_zero, byteAt]
      show (!isDigit (c.toNat : Int) && ((isUpper (c.toNat : Int) || isDigit (c.toNat : Int)) && _)) = (isUpper (c.toNat : Int) && _)
      have hx : isUpper (c.toNat : Int) = true → isDigit (c.toNat : Int) = false := by
        unfold isUpper isDigit
        intro h
        simp at h ⊢
        omega
      cases hu : isUpper (c.toNat : Int) with
      | true => rw [hx hu]; simp
      | false => cases isDigit (c.toNat : Int) <;> simp
  · rw [decide_eq_false h1]; rfl
theorem name_eq (s : ByteArray) : nameB s = validB false s := by
  unfold nameB allB validB
  rw [parts_eq]
  have e : decide ((s.size : Int) ≤ 31) = decide (s.size ≤ 31) := by rw [Bool.eq_iff_iff, decide_eq_true_eq, decide_eq_true_eq]; omega
  have e2 : (fun q : ByteArray => nameQ q.data.toList) = partB false := by funext q; rw [part_eq]
  rw [e, e2]
theorem group_eq (s : ByteArray) : groupB s = rgroupB s := by
  unfold groupB rgroupB
  rw [name_eq, parts_eq]
  cases validB false s <;> cases decide (s.size ≤ 22) <;> rfl
theorem dotless_len {l : List UInt8} : (sp l).length = 1 ↔ (46 : UInt8) ∉ l := by
  constructor
  · intro h hm
    rcases idx_cases 46 l with ⟨_, h2⟩ | ⟨a, r, rfl, h2, _⟩
    · exact h2 hm
    · rw [sp_at a r h2] at h
      have := List.length_pos_iff.2 (sp_ne r)
      simp at h
      exact sp_ne r h
  · intro h
    rw [sp_dotless l h]; rfl
theorem word_eq (s : ByteArray) : wordB s = qualR s := by
  unfold wordB qualR
  rw [name_eq]
  congr 1
  have h : (0 ≤ Lib.indexByte s.data.toList 46) ↔ ¬ (sp s.data.toList).length = 1 := by
    rcases idx_cases 46 s.data.toList with ⟨h1, h2⟩ | ⟨a, r, h1, h2, h3⟩
    · rw [h1]
      constructor
      · intro h; omega
      · intro h; exact absurd (dotless_len.2 h2) h
    · rw [h3]
      constructor
      · intro _ h
        exact dotless_len.1 h (by rw [h1]; simp)
      · intro _; omega
  have e : (spB s.data.toList).length = (sp s.data.toList).length := by simp [spB]
  rw [e]
  by_cases hq : (sp s.data.toList).length = 1
  · rw [decide_eq_false (fun h' => h.1 h' hq), decide_eq_true hq]; rfl
  · rw [decide_eq_true (h.2 hq), decide_eq_false hq]; rfl
theorem owner_eqR (s : ByteArray) : (decide (s = bempty) || wordB s) = ownerR s := by
  unfold ownerR
  rw [word_eq, toList_beq]
/-- A group is valid for the one exactly if it is for the other. -/
theorem groupV_eq {e : E} (hk : e.kind = 1) : groupV e = rgroupV e := by
  have hu : e.uses = { E.zero with kind := e.kind, name := e.name, limit := e.limit, last := e.last, empty := e.empty, owner := e.owner } := by
    unfold E.uses
    rw [if_neg (by omega), if_pos hk]
  have hok : groupOK e = (decide (1 ≤ e.limit) && (decide (e.limit ≤ 63) && (decide (0 ≤ e.last) && (decide (e.last ≤ 9999) && ownerR e.owner)))) := by
    unfold groupOK
    rw [owner_eqR]
    have h1 : inB 1 63 [e.limit] = (decide (1 ≤ e.limit) && decide (e.limit ≤ 63)) := by simp [inB]
    have h2 : inB 0 9999 [e.last] = (decide (0 ≤ e.last) && decide (e.last ≤ 9999)) := by simp [inB]
    rw [h1, h2]
    simp only [Bool.and_assoc]
  unfold groupV rgroupV
  rw [← hok, group_eq]
  cases hg : rgroupB e.name with
  | false => simp
  | true =>
    cases ho : groupOK e with
    | false => simp
    | true =>
      obtain ⟨h1, h2⟩ := grpRead_ok ho
      rw [h1, ← hu, decide_eq_true h2]
      simp only [Bool.true_and, Bool.and_true]
      rw [Bool.eq_iff_iff, decide_eq_true_eq, decide_eq_true_eq]
      exact ⟨fun h => h.symm, fun h => h.symm⟩
theorem genV_eq (e : E) (xs : List Int) : genV e xs = rgenV e xs := by
  unfold genV rgenV
  by_cases hk : e.kind = 1
  · rw [groupV_eq hk]
  · rw [decide_eq_false hk]; rfl
end Go.Proofs.YtlkkiimmangplaaGreatDoor
