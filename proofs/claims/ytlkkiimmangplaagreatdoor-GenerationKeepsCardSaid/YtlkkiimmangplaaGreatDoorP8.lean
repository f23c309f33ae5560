/- A group's fields through the codec; numbers in a range. -/
import Derived.Test.YtlkkiimmangplaaGreatDoorP7
namespace Go.Proofs.YtlkkiimmangplaaGreatDoor
open Go.RowKit
set_option linter.unusedVariables false
set_option linter.unusedSimpArgs false

def grpOut (out : ByteArray) (limit last : Int) (empty : Bool) (owner : ByteArray) : ByteArray :=
  out ++ strOfNums (encF 9 limit) ++ strOfNums (encF 9 last) ++ strOfNums [if empty then 1 else 0] ++ encText owner
def grpIn (cs : Array Value) (x : Rd) : Array Value × Rd :=
  (((insN (cs, x) [25, 26]).1.setIfInBounds 27 (.bool (insN (cs, x) [25, 26]).2.bool.1)).setIfInBounds 28 (.string ((insN (cs, x) [25, 26]).2.bool.2.text 200).1), ((insN (cs, x) [25, 26]).2.bool.2.text 200).2)
theorem mem2 {α : Type} {P : α → Prop} {a b : α} (ha : P a) (hb : P b) : ∀ p ∈ [a, b], P p := by
  intro p hp
  rcases List.mem_cons.1 hp with rfl | hp
  · exact ha
  · rcases List.mem_cons.1 hp with rfl | hp
    · exact hb
    · cases hp

set_option maxRecDepth 100000 in
theorem group_w (c q : Nat) (out : ByteArray) (cs : Array Value) (limit last : Int) (empty : Bool) (owner : ByteArray) (w0 w : World) (H : List It) (hst : St w0 (cB c out none :: .blk q 34 cs :: H) w) (h25 : cs[25]? = some (.int .i64 limit)) (h26 : cs[26]? = some (.int .i64 last)) (h27 : cs[27]? = some (.bool empty)) (h28 : cs[28]? = some (.string owner)) (hl : 0 ≤ limit ∧ limit < 9223372036854775808) (hl' : 0 ≤ last ∧ last < 9223372036854775808) (ho : out.size + 1000 < 4294967296) (how : owner.size < 4294967296) :
    Calls Tryz.prog 196 #[.pointer (some ⟨c, 0, none⟩), .pointer (some ⟨q, 0, none⟩)] w (Mo w0 (.tuple #[]) (cB c (grpOut out limit last empty owner) none :: .blk q 34 cs :: H)) := by
  refine enterH Tryz.func196 rfl Tryz.ntmps196 rfl hst ?_
  refine WC.seq ?_
  refine WC.nil1 ?_
  apply WC.draws (al := [7]) (vs := [_, _, _, _, _, _, _, fun s => .slice (some ⟨(s 7).1, 0, none⟩) 2 2, _]) (Hs := fun v HH b s => (bif b 8 then ((.blk (s 7).1 222 (rowP [(⟨q, 25, none⟩, limit), (⟨q, 26, none⟩, last)]) :: cB c (outs out [(⟨q, 25, none⟩, limit), (⟨q, 26, none⟩, last)]) none :: .blk q 34 cs :: H)) else (bnew (b 7) (It.blk (s 7).1 222 #[.pointer (some ⟨q, 25, none⟩), .pointer (some ⟨q, 26, none⟩)]) HH 0))) (by kernel_rfl) (by kernel_rfl) (by kernel_rfl)
  case steps =>
    refine Stps.cons (Stp.off [8] (by kernel_rfl) (Stp.p (fun b s hd => ⟨_, ⟨rfl, P.move rfl⟩, rfl, rfl⟩))) ?_
    refine Stps.cons (Stp.off [8] (by kernel_rfl) (Stp.p (fun b s hd => ⟨_, ⟨rfl, P.move rfl⟩, rfl, rfl⟩))) ?_
    refine Stps.cons (Stp.off [8] (by kernel_rfl) (Stp.p (fun b s hd => ⟨_, ⟨rfl, P.nilCheck rfl⟩, rfl, rfl⟩))) ?_
    refine Stps.cons (Stp.off [8] (by kernel_rfl) (Stp.p (fun b s hd => ⟨_, ⟨rfl, P.fieldAddr fa_34_5 rfl⟩, rfl, rfl⟩))) ?_
    refine Stps.cons (Stp.off [8] (by kernel_rfl) (Stp.p (fun b s hd => ⟨_, ⟨rfl, P.move rfl⟩, rfl, rfl⟩))) ?_
    refine Stps.cons (Stp.off [8] (by kernel_rfl) (Stp.p (fun b s hd => ⟨_, ⟨rfl, P.nilCheck rfl⟩, rfl, rfl⟩))) ?_
    refine Stps.cons (Stp.off [8] (by kernel_rfl) (Stp.p (fun b s hd => ⟨_, ⟨rfl, P.fieldAddr fa_34_6 rfl⟩, rfl, rfl⟩))) ?_
    refine Stps.cons (Stp.off [8] (by kernel_rfl) (Stp.row 0 rfl (fun b s => ⟨rfl, _, _, rfl, fun w => by refine run_rowL Tryz.underlying273 Tryz.sizeOf222 Tryz.zeroValue222 ?_ ?_ ?_ ?_ ?_ ?_ w <;> rfl, fun q => ⟨rfl, _, rfl, fun hb => rfl⟩⟩))) ?_
    refine Stps.cons (Stp.callo (ent_of Tryz.func197 rfl rfl) (fun b s hb hd => ⟨_, _, (.blk (s 7).1 222 (rowP [(⟨q, 25, none⟩, limit), (⟨q, 26, none⟩, last)]) :: cB c out none :: .blk q 34 cs :: H), _, rfl, rfl, (by show (bif b 8 then _ else bnew (b 7) _ _ _) = _; rw [hb, hd 7 (by decide)]; rfl), fun w hs => numbers_w c (s 7).1 out [(⟨q, 25, none⟩, limit), (⟨q, 26, none⟩, last)] w0 w _ hs (mem2 (fun cs w hs => (cell_blk (hs.ok 2 _ rfl).2).trans h25) (fun cs w hs => (cell_blk (hs.ok 2 _ rfl).2).trans h26)) (mem2 hl hl') (by simp; omega), rfl, rfl⟩)) ?_
    exact Stps.nil
  case h0 => exact fun s => rfl
  case agree => exact AgrAll.cons (AgrL.no (fun s x => rfl) (AgrL.no (fun s x => rfl) (AgrL.no (fun s x => rfl) (AgrL.no (fun s x => rfl) (AgrL.no (fun s x => rfl) (AgrL.no (fun s x => rfl) (AgrL.no (fun s x => rfl) (AgrL.yes (by kernel_rfl) (AgrL.yes (by kernel_rfl) (AgrL.nil)))))))))) (AgrAll.nil)
  intro s0
  refine End.shape (ρ' := [(0, _), (1, _), (4, _), (5, _), (6, _), (7, _), (8, _), (9, _), (10, _), (11, _), (12, _)]) (H' := _ :: _ :: _ :: H) (Env.sub_cons rfl (Env.sub_cons rfl (Env.sub_cons rfl (Env.sub_cons rfl (Env.sub_cons rfl (Env.sub_cons rfl (Env.sub_cons rfl (Env.sub_cons rfl (Env.sub_cons rfl (Env.sub_cons rfl (Env.sub_cons rfl (Env.sub_nil)))))))))))) rfl ?_
  refine End.seq ?_
  refine WC.seq ?_
  refine WC.region ?_
  refine WL.p rfl rfl rfl (P.move rfl) ?_
  refine WL.p rfl rfl rfl (P.move rfl) ?_
  refine WL.p rfl rfl rfl (P.nilCheck rfl) ?_
  refine WL.p rfl rfl rfl (P.fieldAddr fa_34_7 rfl) ?_
  refine WL.callo (H' := _) (ent_of Tryz.func198 rfl rfl) rfl rfl rfl (fun w hs => (truth_w c (outs out [(⟨q, 25, none⟩, limit), (⟨q, 26, none⟩, last)]) ⟨q, 27, none⟩ empty w0 w _ hs.swap2 (fun cs w hs => (cell_blk (hs.ok 2 _ rfl).2).trans h27) (by have := outs_size [(⟨q, 25, none⟩, limit), (⟨q, 26, none⟩, last)] out; simp at this; omega)).mono fun e w' h => h.swap2) ?_
  refine WL.nil_ ?_
  refine End.seq ?_
  refine WC.region ?_
  refine WL.p rfl rfl rfl (P.move rfl) ?_
  refine WL.p rfl rfl rfl (P.move rfl) ?_
  refine WL.p rfl rfl rfl (P.nilCheck rfl) ?_
  refine WL.p rfl rfl rfl (P.fieldAddr fa_34_8 rfl) ?_
  refine WL.callo (H' := _) (ent_of Tryz.func199 rfl rfl) rfl rfl rfl (fun w hs => (text_w c (outs out [(⟨q, 25, none⟩, limit), (⟨q, 26, none⟩, last)] ++ strOfNums [if empty then 1 else 0]) ⟨q, 28, none⟩ owner w0 w _ hs.swap2 (fun cs w hs => (cell_blk (hs.ok 2 _ rfl).2).trans h28) (by have := outs_size [(⟨q, 25, none⟩, limit), (⟨q, 26, none⟩, last)] out; simp [size_append, strOfNums_size] at this ⊢; omega) how).mono fun e w' h => h.swap2) ?_
  refine WL.nil_ ?_
  refine End.norm ?_
  refine End.ret0 rfl ?_
  exact fun w' hs' => Mo.of rfl rfl hs'.tail

set_option maxRecDepth 100000 in
theorem group_r (r c q : Nat) (x : Rd) (out : ByteArray) (cs : Array Value) (w0 w : World) (H : List It) (hst : St w0 (rdB r x :: cB c out (some ⟨r, 0, none⟩) :: .blk q 34 cs :: H) w) (hsz : x.1.size < 4294967296) (hcs : cs.size = 33) :
    Calls Tryz.prog 196 #[.pointer (some ⟨c, 0, none⟩), .pointer (some ⟨q, 0, none⟩)] w (Mo w0 (.tuple #[]) (rdB r (grpIn cs x).2 :: cB c out (some ⟨r, 0, none⟩) :: .blk q 34 (grpIn cs x).1 :: H)) := by
  have hi := insN_size [25, 26] (cs, x)
  have hi1 : (insN (cs, x) [25, 26]).1.size = 33 := by rw [hi.1]; exact hcs
  have hi2 : (insN (cs, x) [25, 26]).2.1.size < 4294967296 := Nat.lt_of_le_of_lt hi.2 hsz
  have hi3 := Rd.bool_size (insN (cs, x) [25, 26]).2
  refine enterH Tryz.func196 rfl Tryz.ntmps196 rfl hst ?_
  refine WC.seq ?_
  refine WC.nil1 ?_
  apply WC.draws (al := [7]) (vs := [_, _, _, _, _, _, _, fun s => .slice (some ⟨(s 7).1, 0, none⟩) 2 2, _]) (Hs := fun v HH b s => (bif b 8 then ((.blk (s 7).1 222 (rowO q [25, 26]) :: rdB r (insN (cs, x) [25, 26]).2 :: cB c out (some ⟨r, 0, none⟩) :: .blk q 34 (insN (cs, x) [25, 26]).1 :: H)) else (bnew (b 7) (It.blk (s 7).1 222 #[.pointer (some ⟨q, 25, none⟩), .pointer (some ⟨q, 26, none⟩)]) HH 0))) (by kernel_rfl) (by kernel_rfl) (by kernel_rfl)
  case steps =>
    refine Stps.cons (Stp.off [8] (by kernel_rfl) (Stp.p (fun b s hd => ⟨_, ⟨rfl, P.move rfl⟩, rfl, rfl⟩))) ?_
    refine Stps.cons (Stp.off [8] (by kernel_rfl) (Stp.p (fun b s hd => ⟨_, ⟨rfl, P.move rfl⟩, rfl, rfl⟩))) ?_
    refine Stps.cons (Stp.off [8] (by kernel_rfl) (Stp.p (fun b s hd => ⟨_, ⟨rfl, P.nilCheck rfl⟩, rfl, rfl⟩))) ?_
    refine Stps.cons (Stp.off [8] (by kernel_rfl) (Stp.p (fun b s hd => ⟨_, ⟨rfl, P.fieldAddr fa_34_5 rfl⟩, rfl, rfl⟩))) ?_
    refine Stps.cons (Stp.off [8] (by kernel_rfl) (Stp.p (fun b s hd => ⟨_, ⟨rfl, P.move rfl⟩, rfl, rfl⟩))) ?_
    refine Stps.cons (Stp.off [8] (by kernel_rfl) (Stp.p (fun b s hd => ⟨_, ⟨rfl, P.nilCheck rfl⟩, rfl, rfl⟩))) ?_
    refine Stps.cons (Stp.off [8] (by kernel_rfl) (Stp.p (fun b s hd => ⟨_, ⟨rfl, P.fieldAddr fa_34_6 rfl⟩, rfl, rfl⟩))) ?_
    refine Stps.cons (Stp.off [8] (by kernel_rfl) (Stp.row 0 rfl (fun b s => ⟨rfl, _, _, rfl, fun w => by refine run_rowL Tryz.underlying273 Tryz.sizeOf222 Tryz.zeroValue222 ?_ ?_ ?_ ?_ ?_ ?_ w <;> rfl, fun q => ⟨rfl, _, rfl, fun hb => rfl⟩⟩))) ?_
    refine Stps.cons (Stp.callo (ent_of Tryz.func197 rfl rfl) (fun b s hb hd => ⟨_, _, (.blk (s 7).1 222 (rowO q [25, 26]) :: rdB r x :: cB c out (some ⟨r, 0, none⟩) :: .blk q 34 cs :: H), _, rfl, rfl, (by show (bif b 8 then _ else bnew (b 7) _ _ _) = _; rw [hb, hd 7 (by decide)]; rfl), fun w hs => numbers_r r c q 34 (s 7).1 x out cs [25, 26] w0 w _ hs hsz (mem2 (by omega) (by omega)) (by decide), rfl, rfl⟩)) ?_
    exact Stps.nil
  case h0 => exact fun s => rfl
  case agree => exact AgrAll.cons (AgrL.no (fun s x => rfl) (AgrL.no (fun s x => rfl) (AgrL.no (fun s x => rfl) (AgrL.no (fun s x => rfl) (AgrL.no (fun s x => rfl) (AgrL.no (fun s x => rfl) (AgrL.no (fun s x => rfl) (AgrL.yes (by kernel_rfl) (AgrL.yes (by kernel_rfl) (AgrL.nil)))))))))) (AgrAll.nil)
  intro s0
  refine End.shape (ρ' := [(0, _), (1, _), (4, _), (5, _), (6, _), (7, _), (8, _), (9, _), (10, _), (11, _), (12, _)]) (H' := _ :: _ :: _ :: _ :: H) (Env.sub_cons rfl (Env.sub_cons rfl (Env.sub_cons rfl (Env.sub_cons rfl (Env.sub_cons rfl (Env.sub_cons rfl (Env.sub_cons rfl (Env.sub_cons rfl (Env.sub_cons rfl (Env.sub_cons rfl (Env.sub_cons rfl (Env.sub_nil)))))))))))) rfl ?_
  refine End.seq ?_
  refine WC.seq ?_
  refine WC.region ?_
  refine WL.p rfl rfl rfl (P.move rfl) ?_
  refine WL.p rfl rfl rfl (P.move rfl) ?_
  refine WL.p rfl rfl rfl (P.nilCheck rfl) ?_
  refine WL.p rfl rfl rfl (P.fieldAddr fa_34_7 rfl) ?_
  refine WL.callo (H' := _) (ent_of Tryz.func198 rfl rfl) rfl rfl rfl (fun w hs => (truth_r r c q 34 27 _ out _ w0 w _ hs.rot hi2 (by rw [hi1]; rfl)).mono fun e w' h => ⟨h.1, h.2.tor⟩) ?_
  refine WL.nil_ ?_
  refine End.seq ?_
  refine WC.region ?_
  refine WL.p rfl rfl rfl (P.move rfl) ?_
  refine WL.p rfl rfl rfl (P.move rfl) ?_
  refine WL.p rfl rfl rfl (P.nilCheck rfl) ?_
  refine WL.p rfl rfl rfl (P.fieldAddr fa_34_8 rfl) ?_
  refine WL.callo (H' := _) (ent_of Tryz.func199 rfl rfl) rfl rfl rfl (fun w hs => (text_r r c q 34 28 _ out _ w0 w _ hs.rot (by omega) (by rw [Array.size_setIfInBounds, hi1]; rfl)).mono fun e w' h => ⟨h.1, h.2.tor⟩) ?_
  refine WL.nil_ ?_
  refine End.norm ?_
  refine End.ret0 rfl ?_
  exact fun w' hs' => Mo.of rfl rfl hs'.tail

theorem foldl_min_le (l : List Int) : ∀ z lo : Int, decide (lo ≤ l.foldl min z) = (decide (lo ≤ z) && l.all (fun x => decide (lo ≤ x))) := by
  induction l with
  | nil => intro z lo; rw [List.foldl_nil, List.all_nil, Bool.and_true]
  | cons x r ih =>
    intro z lo
    rw [List.foldl_cons, ih, List.all_cons, ← Bool.and_assoc]
    congr 1
    rw [Bool.eq_iff_iff]; simp; omega
theorem foldl_max_le (l : List Int) : ∀ z hi : Int, decide (l.foldl max z ≤ hi) = (decide (z ≤ hi) && l.all (fun x => decide (x ≤ hi))) := by
  induction l with
  | nil => intro z lo; rw [List.foldl_nil, List.all_nil, Bool.and_true]
  | cons x r ih =>
    intro z lo
    rw [List.foldl_cons, ih, List.all_cons, ← Bool.and_assoc]
    congr 1
    rw [Bool.eq_iff_iff]; simp; omega
def inB (lo hi : Int) (l : List Int) : Bool := l.all (fun x => decide (lo ≤ x)) && l.all (fun x => decide (x ≤ hi))
theorem min_ge {l : List Int} (h : l ≠ []) (lo : Int) : decide (lo ≤ Lib.minOf l) = l.all (fun x => decide (lo ≤ x)) := by
  cases l with
  | nil => exact absurd rfl h
  | cons x r => rw [Lib.minOf, foldl_min_le]; simp
theorem max_le {l : List Int} (h : l ≠ []) (hi : Int) : decide (Lib.maxOf l ≤ hi) = l.all (fun x => decide (x ≤ hi)) := by
  cases l with
  | nil => exact absurd rfl h
  | cons x r => rw [Lib.maxOf, foldl_max_le]; simp
theorem minI_any (A : Option Addr) (c : Nat) (xs : List Int) (w : World) (hr : Sl encI 1 w A xs) (hp : 0 < xs.length) : Calls Tryz.prog 267 #[.slice A xs.length c] w (RetV w (.int .i64 (Lib.minOf xs))) := by
  obtain ⟨b, off, rfl, hc⟩ := hr.at_ hp
  have hl := hr.1
  refine (Tryz.slices_Min_int b off xs.length c xs w hp (Nat.le_refl _) (by omega) (fun j hj => ?_)).mono fun e w' ⟨h1, h2⟩ => ⟨by rw [h1, List.take_length], by rw [h2]; exact St.refl w⟩
  have := hc j xs[j] (by simp [hj]) 0 _ rfl
  simpa [List.getD, hj] using this
theorem maxI_any (A : Option Addr) (c : Nat) (xs : List Int) (w : World) (hr : Sl encI 1 w A xs) (hp : 0 < xs.length) : Calls Tryz.prog 268 #[.slice A xs.length c] w (RetV w (.int .i64 (Lib.maxOf xs))) := by
  obtain ⟨b, off, rfl, hc⟩ := hr.at_ hp
  have hl := hr.1
  refine (Tryz.slices_Max_int b off xs.length c xs w hp (Nat.le_refl _) (by omega) (fun j hj => ?_)).mono fun e w' ⟨h1, h2⟩ => ⟨by rw [h1, List.take_length], by rw [h2]; exact St.refl w⟩
  have := hc j xs[j] (by simp [hj]) 0 _ rfl
  simpa [List.getD, hj] using this

set_option maxRecDepth 100000 in
theorem within_any (lo hi : Int) (A : Option Addr) (c : Nat) (xs : List Int) (w : World) (hr : Sl encI 1 w A xs) :
    Calls Tryz.prog 201 #[.int .i64 lo, .int .i64 hi, .slice A xs.length c] w (RetV w (.bool (inB lo hi xs))) := by
  refine enter Tryz.func201 rfl Tryz.ntmps201 rfl ?_
  refine WC.seq ?_
  refine WC.region ?_
  refine WL.p rfl rfl rfl (P.assign rfl) ?_
  refine WL.nil_ ?_
  refine End.seq ?_
  refine WC.seq ?_
  refine WC.region ?_
  refine WL.p rfl rfl rfl (P.move rfl) ?_
  refine WL.p rfl rfl rfl (P.lenR Tryz.underlying22 rfl) ?_
  refine WL.p rfl rfl rfl (P.cmp rfl rfl rfl) ?_
  refine WL.p rfl rfl rfl (P.move rfl) ?_
  refine WL.split 10 rfl (fun hs10 => ?_) (fun hs10 => ?_)
  ·
    try simp only [decide_eq_true_eq, decide_eq_false_iff_not, beq_iff_eq, beq_eq_false_iff_ne, bne_iff_ne, bne_eq_false_iff_eq, Bool.not_eq_true', Bool.not_eq_false', ne_eq, Int.not_lt, Int.not_le] at hs10
    refine WL.off rfl rfl ?_
    refine WL.off rfl rfl ?_
    refine WL.off rfl rfl ?_
    refine WL.off rfl rfl ?_
    refine WL.off rfl rfl ?_
    refine WL.offU rfl rfl ?_
    refine WL.offU rfl rfl ?_
    refine WL.offU rfl rfl ?_
    refine WL.offU rfl rfl ?_
    refine WL.off rfl rfl ?_
    refine WL.p rfl rfl rfl (P.pickT rfl rfl) ?_
    refine WL.p rfl rfl rfl (P.assign rfl) ?_
    refine WL.nil_ ?_
    refine End.seq ?_
    refine WC.ret ?_
    refine End.ret1 rfl rfl ?_
    exact fun w' hs' => RetV.of (by rw [List.length_eq_zero_iff.1 (by omega : xs.length = 0)]; rfl) hs'
  ·
    try simp only [decide_eq_true_eq, decide_eq_false_iff_not, beq_iff_eq, beq_eq_false_iff_ne, bne_iff_ne, bne_eq_false_iff_eq, Bool.not_eq_true', Bool.not_eq_false', ne_eq, Int.not_lt, Int.not_le] at hs10
    have hp : 0 < xs.length := by omega
    have hne : xs ≠ [] := fun e => by rw [e] at hp; cases hp
    refine WL.p rfl rfl rfl (P.move rfl) ?_
    refine WL.callv (ent_of Tryz.func267 rfl rfl) rfl rfl rfl (fun w hs => minI_any A c xs w (hr.st hs) hp) ?_
    refine WL.p rfl rfl rfl (P.move rfl) ?_
    refine WL.p rfl rfl rfl (P.cmp rfl rfl rfl) ?_
    refine WL.p rfl rfl rfl (P.move rfl) ?_
    refine WL.split 15 rfl (fun hs15 => ?_) (fun hs15 => ?_)
    ·
      try simp only [decide_eq_true_eq, decide_eq_false_iff_not, beq_iff_eq, beq_eq_false_iff_ne, bne_iff_ne, bne_eq_false_iff_eq, Bool.not_eq_true', Bool.not_eq_false', ne_eq, Int.not_lt, Int.not_le] at hs15
      refine WL.p rfl rfl rfl (P.move rfl) ?_
      refine WL.callv (ent_of Tryz.func268 rfl rfl) rfl rfl rfl (fun w hs => maxI_any A c xs w (hr.st hs) hp) ?_
      refine WL.p rfl rfl rfl (P.move rfl) ?_
      refine WL.p rfl rfl rfl (P.cmp rfl rfl rfl) ?_
      refine WL.p rfl rfl rfl (P.pickT rfl rfl) ?_
      refine WL.p rfl rfl rfl (P.pickF rfl rfl) ?_
      refine WL.p rfl rfl rfl (P.assign rfl) ?_
      refine WL.nil_ ?_
      refine End.seq ?_
      refine WC.ret ?_
      refine End.ret1 rfl rfl ?_
      exact fun w' hs' => RetV.of (by rw [inB, ← min_ge hne, decide_eq_true hs15, max_le hne]; rfl) hs'
    ·
      try simp only [decide_eq_true_eq, decide_eq_false_iff_not, beq_iff_eq, beq_eq_false_iff_ne, bne_iff_ne, bne_eq_false_iff_eq, Bool.not_eq_true', Bool.not_eq_false', ne_eq, Int.not_lt, Int.not_le] at hs15
      refine WL.off rfl rfl ?_
      refine WL.off rfl rfl ?_
      refine WL.off rfl rfl ?_
      refine WL.off rfl rfl ?_
      refine WL.p rfl rfl rfl (P.pickF rfl rfl) ?_
      refine WL.p rfl rfl rfl (P.pickF rfl rfl) ?_
      refine WL.p rfl rfl rfl (P.assign rfl) ?_
      refine WL.nil_ ?_
      refine End.seq ?_
      refine WC.ret ?_
      refine End.ret1 rfl rfl ?_
      exact fun w' hs' => RetV.of (by rw [inB, ← min_ge hne, decide_eq_false (by omega)]; rfl) hs'

end Go.Proofs.YtlkkiimmangplaaGreatDoor
