/- Lists of numbers through the codec. -/
import Derived.Test.YtlkkiimmangplaaGreatDoorP6
namespace Go.Proofs.YtlkkiimmangplaaGreatDoor
open Go.RowKit
set_option linter.unusedVariables false
set_option linter.unusedSimpArgs false

def rowP (l : List (Addr × Int)) : Array Value := (l.map (fun p => Value.pointer (some p.1))).toArray
def outs (out : ByteArray) (l : List (Addr × Int)) : ByteArray := l.foldl (fun s p => s ++ strOfNums (encF 9 p.2)) out
theorem outs_snoc {l : List (Addr × Int)} {k : Nat} {p : Addr × Int} (h : l[k]? = some p) (out : ByteArray) : outs out (l.take (k + 1)) = outs out (l.take k) ++ strOfNums (encF 9 p.2) := by
  rw [take_snoc h]; simp [outs]
theorem outs_size (l : List (Addr × Int)) : ∀ out : ByteArray, (outs out l).size ≤ out.size + 10 * l.length := by
  induction l with
  | nil => intro out; simp [outs]
  | cons p r ih =>
    intro out
    have h1 := ih (out ++ strOfNums (encF 9 p.2))
    have h2 := encF_len 9 p.2
    simp only [size_append, strOfNums_size] at h1
    simp only [outs, List.foldl_cons, List.length_cons] at h1 ⊢
    omega
theorem rowP_get {l : List (Addr × Int)} {k : Nat} {p : Addr × Int} (h : l[k]? = some p) : (rowP l)[0 + (k : Int).toNat * 1]? = some (.pointer (some p.1)) := by simp [rowP, h]

set_option maxRecDepth 100000 in
theorem numbers_w (c bs : Nat) (out : ByteArray) (l : List (Addr × Int)) (w0 w : World) (H : List It) (hst : St w0 (.blk bs 222 (rowP l) :: cB c out none :: H) w) (hread : ∀ p ∈ l, ∀ cs w, St w0 (.blk c 155 cs :: .blk bs 222 (rowP l) :: H) w → w.cell? p.1 = some (.int .i64 p.2)) (hn : ∀ p ∈ l, 0 ≤ p.2 ∧ p.2 < 9223372036854775808) (ho : out.size + 10 * l.length < 4294967296) :
    Calls Tryz.prog 197 #[.pointer (some ⟨c, 0, none⟩), .slice (some ⟨bs, 0, none⟩) l.length l.length] w (Mo w0 (.tuple #[]) (.blk bs 222 (rowP l) :: cB c (outs out l) none :: H)) := by
  refine enterH Tryz.func197 rfl Tryz.ntmps197 rfl hst ?_
  refine WC.seq ?_
  refine WC.region ?_
  refine WL.p rfl rfl rfl (P.move rfl) ?_
  refine WL.p rfl rfl rfl (P.lenR Tryz.underlying273 rfl) ?_
  refine WL.p rfl rfl rfl (P.move rfl) ?_
  refine WL.nil_ ?_
  refine End.seq ?_
  refine WC.block ?_
  refine WC.loopD (σ := Nat) (fun k => [(8, .int .i64 k)]) (fun k => (.blk bs 222 (rowP l) :: cB c (outs out (l.take k)) none :: H)) (fun k => k ≤ l.length) (fun k => l.length - k) 0 (Nat.zero_le _) (Env.sub_cons rfl (Env.sub_nil)) (List.range _) selOk_range (sel_range.trans rfl) ?_
  rintro k hk
  refine WC.seq ?_
  refine WC.region ?_
  refine WL.p rfl rfl rfl (P.cmp rfl rfl rfl) ?_
  refine WL.nil_ ?_
  refine End.seq ?_
  refine WC.seq ?_
  refine WC.cond rfl (fun hc9 => ?_) (fun hc9 => ?_)
  ·
    try simp only [decide_eq_true_eq, decide_eq_false_iff_not, beq_iff_eq, beq_eq_false_iff_ne, bne_iff_ne, bne_eq_false_iff_eq, Bool.not_eq_true', Bool.not_eq_false', ne_eq, Int.not_lt, Int.not_le] at hc9
    obtain ⟨p, hp⟩ := get_of_lt (xs := l) (k := k) (by omega)
    refine WC.skip ?_
    refine End.seq ?_
    refine WC.seq ?_
    refine WC.block ?_
    refine WC.seq ?_
    refine WC.region ?_
    refine WL.p rfl rfl rfl (P.elemAddr Tryz.underlying273 Tryz.sizeOf222 rfl rfl (by omega) (by omega)) ?_
    refine WL.p rfl rfl rfl (P.loadO 0 Tryz.isAgg222 rfl rfl (rowP_get hp)) ?_
    refine WL.p rfl rfl rfl (P.assign rfl) ?_
    refine WL.nil_ ?_
    refine End.seq ?_
    refine WC.region ?_
    refine WL.p rfl rfl rfl (P.move rfl) ?_
    refine WL.p rfl rfl rfl (P.move rfl) ?_
    refine WL.callo (H' := _) (ent_of Tryz.func210 rfl rfl) rfl rfl rfl (fun w hs => (number_w c (outs out (l.take k)) p.1 p.2 w0 w _ hs.swap2 (fun cs w hs => hread p (List.mem_of_getElem? hp) cs w hs) (by have := outs_size (l.take k) out; simp at this; omega) (hn p (List.mem_of_getElem? hp))).mono fun e w' h => h.swap2) ?_
    refine WL.nil_ ?_
    refine End.blkN ?_
    refine End.seq ?_
    refine WC.region ?_
    refine WL.p rfl rfl rfl (P.ari64 rfl rfl rfl (by omega)) ?_
    refine WL.p rfl rfl rfl (P.move rfl) ?_
    refine WL.nil_ ?_
    refine End.againD (k + 1) ?_ ?_ rfl (Env.sub_cons rfl (Env.sub_nil)) rfl (List.range _) selOk_range (sel_range.trans (by rw [outs_snoc hp]))
    · show k + 1 ≤ l.length; omega
    · omega
  ·
    try simp only [decide_eq_true_eq, decide_eq_false_iff_not, beq_iff_eq, beq_eq_false_iff_ne, bne_iff_ne, bne_eq_false_iff_eq, Bool.not_eq_true', Bool.not_eq_false', ne_eq, Int.not_lt, Int.not_le] at hc9
    refine WC.exit ?_
    refine End.thenX ?_
    refine End.thenX ?_
    refine End.blkX ?_
    refine End.norm ?_
    refine End.ret0 rfl ?_
    have e : k = l.length := by omega
    exact fun w' hs' => Mo.of rfl (by rw [e, List.take_length]) hs'

def rowO (q : Nat) (l : List Nat) : Array Value := (l.map (fun o => Value.pointer (some ⟨q, o, none⟩))).toArray
theorem rowO_get {q : Nat} {l : List Nat} {k o : Nat} (h : l[k]? = some o) : (rowO q l)[0 + (k : Int).toNat * 1]? = some (.pointer (some ⟨q, o, none⟩)) := by simp [rowO, h]
/-- Numbers read into cells, one behind the other. -/
def insN (s : Array Value × Rd) (l : List Nat) : Array Value × Rd := l.foldl (fun s o => (s.1.setIfInBounds o (.int .i64 (clampN s.2.num.1)), s.2.num.2)) s
theorem insN_snoc {l : List Nat} {k o : Nat} (h : l[k]? = some o) (s : Array Value × Rd) : insN s (l.take (k + 1)) = ((insN s (l.take k)).1.setIfInBounds o (.int .i64 (clampN (insN s (l.take k)).2.num.1)), (insN s (l.take k)).2.num.2) := by
  rw [take_snoc h]; simp [insN]
theorem insN_size (l : List Nat) : ∀ s, (insN s l).1.size = s.1.size ∧ (insN s l).2.1.size ≤ s.2.1.size := by
  induction l with
  | nil => intro s; exact ⟨rfl, Nat.le_refl _⟩
  | cons o r ih =>
    intro s
    have h := ih (s.1.setIfInBounds o (.int .i64 (clampN s.2.num.1)), s.2.num.2)
    simp only [Array.size_setIfInBounds] at h
    exact ⟨h.1, Nat.le_trans h.2 s.2.num_size⟩
theorem St.rot {w0 w : World} {a b c d : It} {H : List It} (h : St w0 (a :: b :: c :: d :: H) w) : St w0 (b :: c :: d :: a :: H) w := by
  have hg : ∀ (i : Nat) (z : It), (b :: c :: d :: a :: H)[i]? = some z → (a :: b :: c :: d :: H)[if i < 3 then i + 1 else if i = 3 then 0 else i]? = some z := by
    intro i z hz
    match i with
    | 0 => simpa using hz
    | 1 => simpa using hz
    | 2 => simpa using hz
    | 3 => simpa using hz
    | i + 4 => rw [if_neg (by omega), if_neg (by omega)]; simpa using hz
  refine ⟨h.below, fun i z hz => h.ok _ z (hg i z hz), fun i j z u hz hu hij => h.apart _ _ z u (hg i z hz) (hg j u hu) (by split <;> split <;> (try split) <;> (try split) <;> omega)⟩
theorem St.tor {w0 w : World} {a b c d : It} {H : List It} (h : St w0 (b :: c :: d :: a :: H) w) : St w0 (a :: b :: c :: d :: H) w := h.rot.rot.rot

set_option maxRecDepth 100000 in
theorem numbers_r (r c q tq bs : Nat) (x : Rd) (out : ByteArray) (cs : Array Value) (l : List Nat) (w0 w : World) (H : List It) (hst : St w0 (.blk bs 222 (rowO q l) :: rdB r x :: cB c out (some ⟨r, 0, none⟩) :: .blk q tq cs :: H) w) (hsz : x.1.size < 4294967296) (hoff : ∀ o ∈ l, o < cs.size) (hll : l.length < 1000) :
    Calls Tryz.prog 197 #[.pointer (some ⟨c, 0, none⟩), .slice (some ⟨bs, 0, none⟩) l.length l.length] w (Mo w0 (.tuple #[]) (.blk bs 222 (rowO q l) :: rdB r (insN (cs, x) l).2 :: cB c out (some ⟨r, 0, none⟩) :: .blk q tq (insN (cs, x) l).1 :: H)) := by
  refine enterH Tryz.func197 rfl Tryz.ntmps197 rfl hst ?_
  refine WC.seq ?_
  refine WC.region ?_
  refine WL.p rfl rfl rfl (P.move rfl) ?_
  refine WL.p rfl rfl rfl (P.lenR Tryz.underlying273 rfl) ?_
  refine WL.p rfl rfl rfl (P.move rfl) ?_
  refine WL.nil_ ?_
  refine End.seq ?_
  refine WC.block ?_
  refine WC.loopD (σ := Nat) (fun k => [(8, .int .i64 k)]) (fun k => (.blk bs 222 (rowO q l) :: rdB r (insN (cs, x) (l.take k)).2 :: cB c out (some ⟨r, 0, none⟩) :: .blk q tq (insN (cs, x) (l.take k)).1 :: H)) (fun k => k ≤ l.length) (fun k => l.length - k) 0 (Nat.zero_le _) (Env.sub_cons rfl (Env.sub_nil)) (List.range _) selOk_range (sel_range.trans rfl) ?_
  rintro k hk
  refine WC.seq ?_
  refine WC.region ?_
  refine WL.p rfl rfl rfl (P.cmp rfl rfl rfl) ?_
  refine WL.nil_ ?_
  refine End.seq ?_
  refine WC.seq ?_
  refine WC.cond rfl (fun hc9 => ?_) (fun hc9 => ?_)
  ·
    try simp only [decide_eq_true_eq, decide_eq_false_iff_not, beq_iff_eq, beq_eq_false_iff_ne, bne_iff_ne, bne_eq_false_iff_eq, Bool.not_eq_true', Bool.not_eq_false', ne_eq, Int.not_lt, Int.not_le] at hc9
    obtain ⟨o, hp⟩ := get_of_lt (xs := l) (k := k) (by omega)
    refine WC.skip ?_
    refine End.seq ?_
    refine WC.seq ?_
    refine WC.block ?_
    refine WC.seq ?_
    refine WC.region ?_
    refine WL.p rfl rfl rfl (P.elemAddr Tryz.underlying273 Tryz.sizeOf222 rfl rfl (by omega) (by omega)) ?_
    refine WL.p rfl rfl rfl (P.loadO 0 Tryz.isAgg222 rfl rfl (rowO_get hp)) ?_
    refine WL.p rfl rfl rfl (P.assign rfl) ?_
    refine WL.nil_ ?_
    refine End.seq ?_
    refine WC.region ?_
    refine WL.p rfl rfl rfl (P.move rfl) ?_
    refine WL.p rfl rfl rfl (P.move rfl) ?_
    refine WL.callo (H' := _) (ent_of Tryz.func210 rfl rfl) rfl rfl rfl (fun w hs => (number_r r c q tq o (insN (cs, x) (l.take k)).2 out (insN (cs, x) (l.take k)).1 w0 w _ hs.rot (by have := (insN_size (l.take k) (cs, x)).2; simp only at this; omega) (by have h1 := (insN_size (l.take k) (cs, x)).1; have h2 := hoff o (List.mem_of_getElem? hp); simp [Nat.blt, Nat.succ_le_iff, h1, h2])).mono fun e w' h => ⟨h.1, h.2.tor⟩) ?_
    refine WL.nil_ ?_
    refine End.blkN ?_
    refine End.seq ?_
    refine WC.region ?_
    refine WL.p rfl rfl rfl (P.ari64 rfl rfl rfl (by omega)) ?_
    refine WL.p rfl rfl rfl (P.move rfl) ?_
    refine WL.nil_ ?_
    refine End.againD (k + 1) ?_ ?_ rfl (Env.sub_cons rfl (Env.sub_nil)) rfl (List.range _) selOk_range (sel_range.trans (by rw [insN_snoc hp]))
    · show k + 1 ≤ l.length; omega
    · omega
  ·
    try simp only [decide_eq_true_eq, decide_eq_false_iff_not, beq_iff_eq, beq_eq_false_iff_ne, bne_iff_ne, bne_eq_false_iff_eq, Bool.not_eq_true', Bool.not_eq_false', ne_eq, Int.not_lt, Int.not_le] at hc9
    refine WC.exit ?_
    refine End.thenX ?_
    refine End.thenX ?_
    refine End.blkX ?_
    refine End.norm ?_
    refine End.ret0 rfl ?_
    have e : k = l.length := by omega
    exact fun w' hs' => Mo.of rfl (by rw [e, List.take_length]) hs'

end Go.Proofs.YtlkkiimmangplaaGreatDoor
