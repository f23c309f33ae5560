/- The reference's names: the parts of a text. -/
import Derived.Test.YtlkkiimmangplaaGreatDoorV2
namespace Go.Proofs.YtlkkiimmangplaaGreatDoor
open Go.RowKit
set_option linter.unusedVariables false
set_option linter.unusedSimpArgs false

/-- The parts of a text between full stops, by its letters. -/
def sp : List UInt8 → List (List UInt8)
  | [] => [[]]
  | c :: r => if c = 46 then [] :: sp r else match sp r with
    | h :: t => (c :: h) :: t
    | [] => [[c]]
theorem sp_ne : ∀ l, sp l ≠ []
  | [] => by simp [sp]
  | c :: r => by
    unfold sp
    split
    · simp
    · split <;> simp
theorem sp_snoc : ∀ (a : List UInt8) (c : UInt8), ∃ ys y, sp a = ys ++ [y] ∧ sp (a ++ [c]) = if c = 46 then ys ++ [y] ++ [[]] else ys ++ [y ++ [c]]
  | [], c => ⟨[], [], rfl, by
    by_cases h : c = 46
    · simp [sp, h]
    · simp [sp, h]⟩
  | d :: r, c => by
    obtain ⟨ys, y, h1, h2⟩ := sp_snoc r c
    by_cases hd : d = 46
    · refine ⟨[] :: ys, y, by rw [sp, if_pos hd, h1]; rfl, ?_⟩
      rw [List.cons_append, sp, if_pos hd, h2]
      split <;> simp
    · cases ys with
      | nil =>
        refine ⟨[], d :: y, by rw [sp, if_neg hd, h1]; rfl, ?_⟩
        rw [List.cons_append, sp, if_neg hd, h2]
        by_cases h : c = 46
        · simp [h]
        · simp [h]
      | cons z zs =>
        refine ⟨(d :: z) :: zs, y, by rw [sp, if_neg hd, h1]; rfl, ?_⟩
        rw [List.cons_append, sp, if_neg hd, h2]
        by_cases h : c = 46
        · simp [h]
        · simp [h]
abbrev mkB (l : List UInt8) : ByteArray := ⟨l.toArray⟩
def spB (l : List UInt8) : List ByteArray := (sp l).map mkB
theorem spB_len : ∀ l : List UInt8, (sp l).length ≤ l.length + 1
  | [] => by simp [sp]
  | c :: r => by
    have := spB_len r
    unfold sp
    split
    · simp; omega
    · split
      · rename_i h t e
        rw [e] at this
        simp at this ⊢
        omega
      · simp
theorem sp_el : ∀ (l : List UInt8) (q : List UInt8), q ∈ sp l → q.length ≤ l.length
  | [], q, h => by simp [sp] at h; simp [h]
  | c :: r, q, h => by
    unfold sp at h
    split at h
    · rcases List.mem_cons.1 h with rfl | h
      · simp
      · have := sp_el r q h
        simp; omega
    · split at h
      · rename_i a t e
        rcases List.mem_cons.1 h with rfl | h
        · have := sp_el r a (by rw [e]; simp)
          simp; omega
        · have := sp_el r q (by rw [e]; simp [h])
          simp; omega
      · simp at h; simp [h]
theorem spB_el {l : List UInt8} {q : ByteArray} (h : q ∈ spB l) : q.size ≤ l.length := by
  obtain ⟨x, hx, rfl⟩ := List.mem_map.1 h
  have := sp_el l x hx
  simpa [mkB, ByteArray.size] using this
theorem take_of_get {l : List UInt8} {k : Nat} (h : k < l.length) : l.take (k + 1) = l.take k ++ [l[k]?.getD 0] := by
  rw [take_snoc (List.getElem?_eq_getElem h), List.getElem?_eq_getElem h]; rfl
theorem mk_push (y : List UInt8) (s : ByteArray) (k : Nat) (h : k < s.data.toList.length) : mkB y ++ s.extract k (k + 1) = mkB (y ++ [s.data.toList[k]?.getD 0]) := by
  apply toList_inj.1
  rw [ByteArray.toList_eq, ByteArray.toList_eq]
  have e : (s.extract k (k + 1)).data.toList = [s.data.toList[k]?.getD 0] := by
    rw [ByteArray.data_extract]
    simp only [Array.toList_extract, List.extract_eq_take_drop]
    rw [show k + 1 - k = 1 by omega, List.drop_eq_getElem_cons h, List.getElem?_eq_getElem h]
    rfl
  rw [ByteArray.data_append, Array.toList_append, e]
theorem u8_is {c : UInt8} {d : Nat} (hd : d < 256) : ((c.toNat : Int) == (d : Int)) = decide (c = UInt8.ofNat d) := by
  rw [Bool.eq_iff_iff, beq_iff_eq, decide_eq_true_eq]
  constructor
  · intro h; exact u8_eq hd h
  · intro h; subst h; simp; omega

set_option maxRecDepth 100000 in
theorem refParts_any (tx : ByteArray) (w : World) (hsz : tx.size < 4294967281) :
    Calls Tryz.prog 124 #[.string tx] w (Ret w (fun p : Nat × Nat => (spB tx.data.toList).length ≤ p.2) (fun p => .slice (some ⟨p.1, 0, none⟩) (spB tx.data.toList).length p.2) (fun p => [.row 9 1 (.slice (some ⟨p.1, 0, none⟩) (spB tx.data.toList).length p.2) (spB tx.data.toList).length (strs (spB tx.data.toList))])) := by
  have hl : tx.size = tx.data.toList.length := rfl
  refine enter Tryz.func124 rfl Tryz.ntmps124 rfl ?_
  refine WC.seq ?_
  refine WC.region ?_
  refine WL.p rfl rfl rfl (P.assign rfl) ?_
  refine WL.nil_ ?_
  refine End.seq ?_
  refine WC.seq ?_
  refine WC.region ?_
  refine WL.row Tryz.underlying48 Tryz.sizeOf9 Tryz.zeroValue9 rfl rfl rfl rfl rfl rfl rfl rfl rfl (fun b5 => ?_)
  refine WL.asRow 0 rfl rfl (by decide) ?_
  refine WL.p rfl rfl rfl (P.assign rfl) ?_
  refine WL.nil_ ?_
  refine End.seq ?_
  refine WC.seq ?_
  refine WC.seq ?_
  refine WC.region ?_
  refine WL.p rfl rfl rfl (P.assign rfl) ?_
  refine WL.nil_ ?_
  refine End.seq ?_
  refine WC.block ?_
  refine WC.loopD (σ := Nat × Nat × Nat) (fun (i, g, c) => [(4, .int .i64 (i : Nat)), (3, .slice (some ⟨g, 0, none⟩) (spB (tx.data.toList.take i)).length c)]) (fun (i, g, c) => [.row 9 1 (.slice (some ⟨g, 0, none⟩) (spB (tx.data.toList.take i)).length c) (spB (tx.data.toList.take i)).length (strs (spB (tx.data.toList.take i)))]) (fun (i, g, c) => i ≤ tx.size ∧ (spB (tx.data.toList.take i)).length ≤ c) (fun (i, g, c) => tx.size - i) (0, b5, 1) ⟨Nat.zero_le _, Nat.le_refl _⟩ (Env.sub_cons rfl (Env.sub_cons rfl (Env.sub_nil))) [0] rfl rfl ?_
  rintro ⟨i, g, c⟩ ⟨hi0, hlc⟩
  refine WC.seq ?_
  refine WC.seq ?_
  refine WC.region ?_
  refine WL.p rfl rfl rfl (P.move rfl) ?_
  refine WL.p rfl rfl rfl (P.move rfl) ?_
  refine WL.p rfl rfl rfl (P.lenS Tryz.underlying9 rfl) ?_
  refine WL.p rfl rfl rfl (P.cmp rfl rfl rfl) ?_
  refine WL.nil_ ?_
  refine End.seq ?_
  refine WC.cond rfl (fun hc9 => ?_) (fun hc9 => ?_)
  ·
    try simp only [decide_eq_true_eq, decide_eq_false_iff_not, beq_iff_eq, beq_eq_false_iff_ne, bne_iff_ne, bne_eq_false_iff_eq, Bool.not_eq_true', Bool.not_eq_false', ne_eq, Int.not_lt, Int.not_le] at hc9
    have hi : i < tx.data.toList.length := by omega
    obtain ⟨ys, y, hy, hy1⟩ := sp_snoc (tx.data.toList.take i) (tx.data.toList[i]?.getD 0)
    rw [← take_of_get hi] at hy1
    have hll := spB_len (tx.data.toList.take i)
    have hlt : (tx.data.toList.take i).length ≤ i := List.length_take_le ..
    have hLn : (spB (tx.data.toList.take i)).length = ys.length + 1 := by simp [spB, hy]
    have hLl : (spB (tx.data.toList.take i)).length ≤ i + 1 := by simp [spB]; omega
    refine WC.skip ?_
    refine End.seq ?_
    refine WC.seq ?_
    refine WC.block ?_
    refine WC.seq ?_
    refine WC.region ?_
    refine WL.p rfl rfl rfl (P.move rfl) ?_
    refine WL.p rfl rfl rfl (P.move rfl) ?_
    refine WL.p rfl rfl rfl (P.byte Tryz.underlying9 rfl rfl (by omega) (by omega)) ?_
    refine WL.p rfl rfl rfl (P.cmp rfl rfl rfl) ?_
    refine WL.nil_ ?_
    refine End.seq ?_
    refine WC.cond rfl (fun hc15 => ?_) (fun hc15 => ?_)
    ·
      try simp only [decide_eq_true_eq, decide_eq_false_iff_not, beq_iff_eq, beq_eq_false_iff_ne, bne_iff_ne, bne_eq_false_iff_eq, Bool.not_eq_true', Bool.not_eq_false', ne_eq, Int.not_lt, Int.not_le] at hc15
      have hc : tx.data.toList[i]?.getD 0 = 46 := u8_eq (by decide) hc15
      rw [if_pos hc] at hy1
      have hL1 : strs (spB (tx.data.toList.take i)) ++ [.string ⟨#[]⟩] = strs (spB (tx.data.toList.take (i + 1))) := by simp [strs, spB, hy, hy1]
      have hL2 : (spB (tx.data.toList.take i)).length + 1 = (spB (tx.data.toList.take (i + 1))).length := by simp [spB, hy, hy1]
      refine WC.region ?_
      refine WL.p rfl rfl rfl (P.move rfl) ?_
      refine WL.row Tryz.underlying48 Tryz.sizeOf9 Tryz.zeroValue9 rfl rfl rfl rfl rfl rfl rfl rfl rfl (fun b17 => ?_)
      refine WL.push 1 (l := (spB (tx.data.toList.take i)).length) (m := 1) (xs := strs (spB (tx.data.toList.take i))) (news := [.string ⟨#[]⟩]) el48 rfl rfl rfl rfl rfl rfl (fun w hs => news_blk hs (j := 0) rfl rfl) (strs_one [⟨#[]⟩]) hL1 hL2 (by decide) (by simp only [maxLen]; omega) (by omega) (fun q cap hq => ?_)
      refine WL.p rfl rfl rfl (P.assign rfl) ?_
      refine WL.nil_ ?_
      refine End.blkN ?_
      refine End.seq ?_
      refine WC.region ?_
      refine WL.p rfl rfl rfl (P.move rfl) ?_
      refine WL.p rfl rfl rfl (P.ari64 rfl rfl rfl (by omega)) ?_
      refine WL.p rfl rfl rfl (P.assign rfl) ?_
      refine WL.nil_ ?_
      refine End.againD (i + 1, q, cap) ?_ ?_ rfl (Env.sub_cons rfl (Env.sub_cons rfl (Env.sub_nil))) rfl [1] rfl rfl
      · exact ⟨by omega, hq⟩
      · show tx.size - (i + 1) < tx.size - i; omega
    ·
      try simp only [decide_eq_true_eq, decide_eq_false_iff_not, beq_iff_eq, beq_eq_false_iff_ne, bne_iff_ne, bne_eq_false_iff_eq, Bool.not_eq_true', Bool.not_eq_false', ne_eq, Int.not_lt, Int.not_le] at hc15
      have hc : ¬ tx.data.toList[i]?.getD 0 = 46 := fun h => hc15 (by rw [show (i : Int).toNat = i from rfl, h]; rfl)
      rw [if_neg hc] at hy1
      have hx : (spB (tx.data.toList.take i))[(0 + ((((spB (tx.data.toList.take i)).length : Nat) : Int) - 1).toNat * 1)]? = some (mkB y) := by rw [hLn]; simp [spB, hy]
      have hys : y.length ≤ i := by have := sp_el (tx.data.toList.take i) y (by rw [hy]; simp); omega
      have hL2 : (spB (tx.data.toList.take i)).length = (spB (tx.data.toList.take (i + 1))).length := by simp [spB, hy, hy1]
      have hset : (strs (spB (tx.data.toList.take i))).set (0 + ((((spB (tx.data.toList.take i)).length : Nat) : Int) - 1).toNat * 1) (.string (mkB y ++ tx.extract (i : Int).toNat ((i : Int) + 1).toNat)) = strs (spB (tx.data.toList.take (i + 1))) := by rw [show tx.extract (i : Int).toNat ((i : Int) + 1).toNat = tx.extract i (i + 1) from rfl, mk_push y tx i hi, strs_set, hLn]; simp [spB, hy, hy1]
      apply WC.draws (al := []) (vs := [_, _, _, _, _, _, _, _, _, _, _, _, _, _, _, _, _, fun _ => undef]) (Hs := fun v HH b s => (bnew (b 17) (.row 9 1 (.slice (some ⟨g, 0, none⟩) (spB (tx.data.toList.take i)).length c) (spB (tx.data.toList.take i)).length ((strs (spB (tx.data.toList.take i))).set (0 + ((((spB (tx.data.toList.take i)).length : Nat) : Int) - 1).toNat * 1) (v 15 s))) HH 0)) (by kernel_rfl) (by kernel_rfl) (by kernel_rfl)
      case steps =>
        refine Stps.cons (Stp.p (fun b s hd => ⟨_, ⟨rfl, P.move rfl⟩, rfl, rfl⟩)) ?_
        refine Stps.cons (Stp.p (fun b s hd => ⟨_, ⟨rfl, P.move rfl⟩, rfl, rfl⟩)) ?_
        refine Stps.cons (Stp.p (fun b s hd => ⟨_, ⟨rfl, P.lenR Tryz.underlying48 rfl⟩, rfl, rfl⟩)) ?_
        refine Stps.cons (Stp.p (fun b s hd => ⟨_, ⟨rfl, P.ari64 rfl rfl rfl (by omega)⟩, rfl, rfl⟩)) ?_
        refine Stps.cons (Stp.p (fun b s hd => ⟨_, ⟨rfl, P.move rfl⟩, rfl, rfl⟩)) ?_
        refine Stps.cons (Stp.p (fun b s hd => ⟨_, ⟨rfl, P.move rfl⟩, rfl, rfl⟩)) ?_
        refine Stps.cons (Stp.p (fun b s hd => ⟨_, ⟨rfl, P.lenR Tryz.underlying48 rfl⟩, rfl, rfl⟩)) ?_
        refine Stps.cons (Stp.p (fun b s hd => ⟨_, ⟨rfl, P.ari64 rfl rfl rfl (by omega)⟩, rfl, rfl⟩)) ?_
        refine Stps.cons (Stp.p (fun b s hd => ⟨_, ⟨rfl, P.elemAddr Tryz.underlying48 Tryz.sizeOf9 rfl rfl (by omega) (by omega)⟩, rfl, rfl⟩)) ?_
        refine Stps.cons (Stp.pw [17] (by kernel_rfl) (fun b s' hd => ⟨_, ⟨rfl, P.loadR 0 Tryz.isAgg9 rfl rfl (strs_get hx)⟩, rfl, rfl⟩)) ?_
        refine Stps.cons (Stp.p (fun b s hd => ⟨_, ⟨rfl, P.move rfl⟩, rfl, rfl⟩)) ?_
        refine Stps.cons (Stp.p (fun b s hd => ⟨_, ⟨rfl, P.move rfl⟩, rfl, rfl⟩)) ?_
        refine Stps.cons (Stp.p (fun b s hd => ⟨_, ⟨rfl, P.move rfl⟩, rfl, rfl⟩)) ?_
        refine Stps.cons (Stp.p (fun b s hd => ⟨_, ⟨rfl, P.ari64 rfl rfl rfl (by omega)⟩, rfl, rfl⟩)) ?_
        refine Stps.cons (Stp.p (fun b s hd => ⟨_, ⟨rfl, P.subLH Tryz.underlying9 rfl rfl rfl (by omega) (by omega) (by omega)⟩, rfl, rfl⟩)) ?_
        refine Stps.cons (Stp.p (fun b s hd => ⟨_, ⟨rfl, P.cat rfl rfl (by have : (mkB y).size = y.length := (by simp [mkB, ByteArray.size]); have := ByteArray.size_extract (a := tx) (b := (i : Int).toNat) (e := ((i : Int) + 1).toNat); omega)⟩, rfl, rfl⟩)) ?_
        refine Stps.cons (Stp.p (fun b s hd => ⟨_, ⟨rfl, P.elemAddr Tryz.underlying48 Tryz.sizeOf9 rfl rfl (by omega) (by omega)⟩, rfl, rfl⟩)) ?_
        refine Stps.cons (Stp.storeR 0 Tryz.sizeOf9 (fun b s hd => ⟨_, _, _, _, _, _, _, rfl, rfl, rfl, rfl, (by omega), ⟨_, rfl⟩, rfl, fun hb => rfl⟩)) ?_
        exact Stps.nil
      case h0 => exact fun s => rfl
      case agree => exact AgrAll.nil
      intro s7
      refine End.shapeC (by kernel_rfl) (new := [(19, _), (20, _), (21, _), (22, _), (23, _), (24, _), (25, _), (26, _), (27, _), (28, _), (29, _), (30, _), (31, _), (32, _), (33, _), (34, _), (35, _)]) (H' := [.row _ _ _ _ (List.set _ _ _)]) (Env.sub_cons rfl (Env.sub_cons rfl (Env.sub_cons rfl (Env.sub_cons rfl (Env.sub_cons rfl (Env.sub_cons rfl (Env.sub_cons rfl (Env.sub_cons rfl (Env.sub_cons rfl (Env.sub_cons rfl (Env.sub_cons rfl (Env.sub_cons rfl (Env.sub_cons rfl (Env.sub_cons rfl (Env.sub_cons rfl (Env.sub_cons rfl (Env.sub_cons rfl (Env.sub_nil)))))))))))))))))) rfl ?_
      refine End.blkN ?_
      refine End.seq ?_
      refine WC.region ?_
      refine WL.is 3 rfl (congrArg (fun q => Value.slice (some ⟨g, 0, none⟩) q c) hL2) ?_
      refine WL.cast (H' := [.row 9 1 (.slice (some ⟨g, 0, none⟩) (spB (tx.data.toList.take (i + 1))).length c) (spB (tx.data.toList.take (i + 1))).length (strs (spB (tx.data.toList.take (i + 1))))]) (by show [It.row 9 1 (.slice (some ⟨g, 0, none⟩) (spB (tx.data.toList.take i)).length c) (spB (tx.data.toList.take i)).length ((strs (spB (tx.data.toList.take i))).set (0 + ((((spB (tx.data.toList.take i)).length : Nat) : Int) - 1).toNat * 1) (.string (mkB y ++ tx.extract (i : Int).toNat ((i : Int) + 1).toNat)))] = _; rw [hset, hL2]) ?_
      refine WL.p rfl rfl rfl (P.move rfl) ?_
      refine WL.p rfl rfl rfl (P.ari64 rfl rfl rfl (by omega)) ?_
      refine WL.p rfl rfl rfl (P.assign rfl) ?_
      refine WL.nil_ ?_
      refine End.againD (i + 1, g, c) ?_ ?_ rfl (Env.sub_cons rfl (Env.sub_cons rfl (Env.sub_nil))) rfl [0] rfl rfl
      · exact ⟨by omega, hL2 ▸ hlc⟩
      · show tx.size - (i + 1) < tx.size - i; omega
  ·
    try simp only [decide_eq_true_eq, decide_eq_false_iff_not, beq_iff_eq, beq_eq_false_iff_ne, bne_iff_ne, bne_eq_false_iff_eq, Bool.not_eq_true', Bool.not_eq_false', ne_eq, Int.not_lt, Int.not_le] at hc9
    refine WC.exit ?_
    refine End.thenX ?_
    refine End.thenX ?_
    refine End.blkX ?_
    refine End.seq ?_
    refine WC.seq ?_
    refine WC.region ?_
    refine WL.p rfl rfl rfl (P.move rfl) ?_
    refine WL.p rfl rfl rfl (P.assign rfl) ?_
    refine WL.nil_ ?_
    refine End.seq ?_
    refine WC.ret ?_
    refine End.ret1 rfl rfl ?_
    have e : i = tx.data.toList.length := by omega
    subst e
    intro w' hs'
    simp only [List.take_length] at hs' hlc ⊢
    exact ⟨(g, c), hlc, rfl, hs'⟩

end Go.Proofs.YtlkkiimmangplaaGreatDoor
