/- The codec's fields. -/
import Derived.Test.YtlkkiimmangplaaGreatDoorP5
namespace Go.Proofs.YtlkkiimmangplaaGreatDoor
open Go.RowKit
set_option linter.unusedVariables false
set_option linter.unusedSimpArgs false

/-- A codec: what it has written, and where it reads. -/
def cB (c : Nat) (out : ByteArray) (inn : Option Addr) : It := .blk c 155 #[.string out, .pointer inn]
def clampN (n : Int) : Int := if 1099511627776 < n then 1099511627777 else n

set_option maxRecDepth 100000 in
theorem truth_w (c : Nat) (out : ByteArray) (ad : Addr) (x : Bool) (w0 w : World) (H : List It) (hst : St w0 (cB c out none :: H) w) (hread : ∀ cs w, St w0 (.blk c 155 cs :: H) w → w.cell? ad = some (.bool x)) (ho : out.size < 4294967296) :
    Calls Tryz.prog 198 #[.pointer (some ⟨c, 0, none⟩), .pointer (some ad)] w (Mo w0 (.tuple #[]) (cB c (out ++ strOfNums [if x then 1 else 0]) none :: H)) := by
  refine enterH Tryz.func198 rfl Tryz.ntmps198 rfl hst ?_
  refine WC.seq ?_
  refine WC.seq ?_
  refine WC.region ?_
  refine WL.p rfl rfl rfl (P.move rfl) ?_
  refine WL.p rfl rfl rfl (P.nilCheck rfl) ?_
  refine WL.p rfl rfl rfl (P.fieldAddr fa_155_1 rfl) ?_
  refine WL.p rfl rfl rfl (P.loadO 0 Tryz.isAgg152 rfl rfl rfl) ?_
  refine WL.p rfl rfl rfl (P.eqNil Tryz.underlying152 rfl rfl) ?_
  refine WL.nil_ ?_
  refine End.seq ?_
  refine WC.cond rfl (fun hc8 => ?_) (fun hc8 => ?_)
  ·
    try simp only [decide_eq_true_eq, decide_eq_false_iff_not, beq_iff_eq, beq_eq_false_iff_ne, bne_iff_ne, bne_eq_false_iff_eq, Bool.not_eq_true', Bool.not_eq_false', ne_eq, Int.not_lt, Int.not_le] at hc8
    refine WC.seq ?_
    apply WC.draws (al := []) (vs := [_, _, _, _, _, _, _, _, _, _, _, fun _ => undef]) (Hs := fun v H b s => (blay [(b 11, 0, 1, [v 8 s])] H 0)) (by kernel_rfl) (by kernel_rfl) (by kernel_rfl)
    case steps =>
      refine Stps.cons (Stp.p (fun b s hd => ⟨_, ⟨rfl, P.move rfl⟩, rfl, rfl⟩)) ?_
      refine Stps.cons (Stp.p (fun b s hd => ⟨_, ⟨rfl, P.move rfl⟩, rfl, rfl⟩)) ?_
      refine Stps.cons (Stp.p (fun b s hd => ⟨_, ⟨rfl, P.nilCheck rfl⟩, rfl, rfl⟩)) ?_
      refine Stps.cons (Stp.p (fun b s hd => ⟨_, ⟨rfl, P.fieldAddr fa_155_0 rfl⟩, rfl, rfl⟩)) ?_
      refine Stps.cons (Stp.pw [11] (by kernel_rfl) (fun b s hd => ⟨_, ⟨rfl, P.loadO 0 Tryz.isAgg9 rfl rfl rfl⟩, rfl, rfl⟩)) ?_
      refine Stps.cons (Stp.p (fun b s hd => ⟨_, ⟨rfl, P.move rfl⟩, rfl, rfl⟩)) ?_
      refine Stps.cons (Stp.p (fun b s hd => ⟨_, ⟨rfl, P.nilCheck rfl⟩, rfl, rfl⟩)) ?_
      refine Stps.cons (Stp.p (fun b s hd => ⟨_, ⟨rfl, P.loadH Tryz.isAgg4 rfl (fun w hs => hread _ w hs)⟩, rfl, rfl⟩)) ?_
      refine Stps.cons (Stp.callv (ent_of Tryz.func265 rfl rfl) (fun b s hd => ⟨_, _, rfl, rfl, fun w hs => appendBool_any out x w (by omega), rfl, rfl⟩)) ?_
      refine Stps.cons (Stp.p (fun b s hd => ⟨_, ⟨rfl, P.nilCheck rfl⟩, rfl, rfl⟩)) ?_
      refine Stps.cons (Stp.p (fun b s hd => ⟨_, ⟨rfl, P.fieldAddr fa_155_0 rfl⟩, rfl, rfl⟩)) ?_
      refine Stps.cons (Stp.store 0 0 Tryz.sizeOf9 (fun b s hd => ⟨true, _, _, _, _, _, _, rfl, rfl, rfl, rfl, rfl, rfl, rfl, rfl, rfl, rfl, rfl⟩)) ?_
      exact Stps.nil
    case h0 => exact fun s => rfl
    case agree => exact AgrAll.nil
    intro s1
    refine End.shape (ρ' := [(0, _), (1, _), (4, _), (5, _), (6, _), (7, _), (8, _), (9, _), (10, _), (11, _), (12, _), (13, _), (14, _), (15, _), (16, _), (17, _), (18, _), (19, _)]) (H' := .blk _ _ #[_, _] :: H) (Env.sub_cons rfl (Env.sub_cons rfl (Env.sub_cons rfl (Env.sub_cons rfl (Env.sub_cons rfl (Env.sub_cons rfl (Env.sub_cons rfl (Env.sub_cons rfl (Env.sub_cons rfl (Env.sub_cons rfl (Env.sub_cons rfl (Env.sub_cons rfl (Env.sub_cons rfl (Env.sub_cons rfl (Env.sub_cons rfl (Env.sub_cons rfl (Env.sub_cons rfl (Env.sub_cons rfl (Env.sub_nil))))))))))))))))))) rfl ?_
    refine End.seq ?_
    refine WC.ret ?_
    refine End.thenR ?_
    refine End.ret0 rfl ?_
    exact fun w' hs' => Mo.of rfl rfl hs'
  ·
    try simp only [decide_eq_true_eq, decide_eq_false_iff_not, beq_iff_eq, beq_eq_false_iff_ne, bne_iff_ne, bne_eq_false_iff_eq, Bool.not_eq_true', Bool.not_eq_false', ne_eq, Int.not_lt, Int.not_le] at hc8
    cases hc8

set_option maxRecDepth 100000 in
theorem text_w (c : Nat) (out : ByteArray) (ad : Addr) (x : ByteArray) (w0 w : World) (H : List It) (hst : St w0 (cB c out none :: H) w) (hread : ∀ cs w, St w0 (.blk c 155 cs :: H) w → w.cell? ad = some (.string x)) (ho : out.size < 4294967296) (hx : x.size < 4294967296) :
    Calls Tryz.prog 199 #[.pointer (some ⟨c, 0, none⟩), .pointer (some ad)] w (Mo w0 (.tuple #[]) (cB c (out ++ encText x) none :: H)) := by
  refine enterH Tryz.func199 rfl Tryz.ntmps199 rfl hst ?_
  refine WC.seq ?_
  refine WC.seq ?_
  refine WC.region ?_
  refine WL.p rfl rfl rfl (P.move rfl) ?_
  refine WL.p rfl rfl rfl (P.nilCheck rfl) ?_
  refine WL.p rfl rfl rfl (P.fieldAddr fa_155_1 rfl) ?_
  refine WL.p rfl rfl rfl (P.loadO 0 Tryz.isAgg152 rfl rfl rfl) ?_
  refine WL.p rfl rfl rfl (P.eqNil Tryz.underlying152 rfl rfl) ?_
  refine WL.nil_ ?_
  refine End.seq ?_
  refine WC.cond rfl (fun hc8 => ?_) (fun hc8 => ?_)
  ·
    try simp only [decide_eq_true_eq, decide_eq_false_iff_not, beq_iff_eq, beq_eq_false_iff_ne, bne_iff_ne, bne_eq_false_iff_eq, Bool.not_eq_true', Bool.not_eq_false', ne_eq, Int.not_lt, Int.not_le] at hc8
    refine WC.seq ?_
    apply WC.draws (al := []) (vs := [_, _, _, _, _, _, _, _, _, _, _, fun _ => undef]) (Hs := fun v H b s => (blay [(b 11, 0, 1, [v 8 s])] H 0)) (by kernel_rfl) (by kernel_rfl) (by kernel_rfl)
    case steps =>
      refine Stps.cons (Stp.p (fun b s hd => ⟨_, ⟨rfl, P.move rfl⟩, rfl, rfl⟩)) ?_
      refine Stps.cons (Stp.p (fun b s hd => ⟨_, ⟨rfl, P.move rfl⟩, rfl, rfl⟩)) ?_
      refine Stps.cons (Stp.p (fun b s hd => ⟨_, ⟨rfl, P.nilCheck rfl⟩, rfl, rfl⟩)) ?_
      refine Stps.cons (Stp.p (fun b s hd => ⟨_, ⟨rfl, P.fieldAddr fa_155_0 rfl⟩, rfl, rfl⟩)) ?_
      refine Stps.cons (Stp.pw [11] (by kernel_rfl) (fun b s hd => ⟨_, ⟨rfl, P.loadO 0 Tryz.isAgg9 rfl rfl rfl⟩, rfl, rfl⟩)) ?_
      refine Stps.cons (Stp.p (fun b s hd => ⟨_, ⟨rfl, P.move rfl⟩, rfl, rfl⟩)) ?_
      refine Stps.cons (Stp.p (fun b s hd => ⟨_, ⟨rfl, P.nilCheck rfl⟩, rfl, rfl⟩)) ?_
      refine Stps.cons (Stp.p (fun b s hd => ⟨_, ⟨rfl, P.loadH Tryz.isAgg9 rfl (fun w hs => hread _ w hs)⟩, rfl, rfl⟩)) ?_
      refine Stps.cons (Stp.callv (ent_of Tryz.func169 rfl rfl) (fun b s hd => ⟨_, _, rfl, rfl, fun w hs => appendText_any out x w ho hx, rfl, rfl⟩)) ?_
      refine Stps.cons (Stp.p (fun b s hd => ⟨_, ⟨rfl, P.nilCheck rfl⟩, rfl, rfl⟩)) ?_
      refine Stps.cons (Stp.p (fun b s hd => ⟨_, ⟨rfl, P.fieldAddr fa_155_0 rfl⟩, rfl, rfl⟩)) ?_
      refine Stps.cons (Stp.store 0 0 Tryz.sizeOf9 (fun b s hd => ⟨true, _, _, _, _, _, _, rfl, rfl, rfl, rfl, rfl, rfl, rfl, rfl, rfl, rfl, rfl⟩)) ?_
      exact Stps.nil
    case h0 => exact fun s => rfl
    case agree => exact AgrAll.nil
    intro s1
    refine End.shape (ρ' := [(0, _), (1, _), (4, _), (5, _), (6, _), (7, _), (8, _), (9, _), (10, _), (11, _), (12, _), (13, _), (14, _), (15, _), (16, _), (17, _), (18, _), (19, _)]) (H' := .blk _ _ #[_, _] :: H) (Env.sub_cons rfl (Env.sub_cons rfl (Env.sub_cons rfl (Env.sub_cons rfl (Env.sub_cons rfl (Env.sub_cons rfl (Env.sub_cons rfl (Env.sub_cons rfl (Env.sub_cons rfl (Env.sub_cons rfl (Env.sub_cons rfl (Env.sub_cons rfl (Env.sub_cons rfl (Env.sub_cons rfl (Env.sub_cons rfl (Env.sub_cons rfl (Env.sub_cons rfl (Env.sub_cons rfl (Env.sub_nil))))))))))))))))))) rfl ?_
    refine End.seq ?_
    refine WC.ret ?_
    refine End.thenR ?_
    refine End.ret0 rfl ?_
    exact fun w' hs' => Mo.of rfl rfl hs'
  ·
    try simp only [decide_eq_true_eq, decide_eq_false_iff_not, beq_iff_eq, beq_eq_false_iff_ne, bne_iff_ne, bne_eq_false_iff_eq, Bool.not_eq_true', Bool.not_eq_false', ne_eq, Int.not_lt, Int.not_le] at hc8
    cases hc8

set_option maxRecDepth 100000 in
theorem number_w (c : Nat) (out : ByteArray) (ad : Addr) (x : Int) (w0 w : World) (H : List It) (hst : St w0 (cB c out none :: H) w) (hread : ∀ cs w, St w0 (.blk c 155 cs :: H) w → w.cell? ad = some (.int .i64 x)) (ho : out.size < 4294967296) (hx : 0 ≤ x ∧ x < 9223372036854775808) :
    Calls Tryz.prog 210 #[.pointer (some ⟨c, 0, none⟩), .pointer (some ad)] w (Mo w0 (.tuple #[]) (cB c (out ++ strOfNums (encF 9 x)) none :: H)) := by
  refine enterH Tryz.func210 rfl Tryz.ntmps210 rfl hst ?_
  refine WC.seq ?_
  refine WC.seq ?_
  refine WC.region ?_
  refine WL.p rfl rfl rfl (P.move rfl) ?_
  refine WL.p rfl rfl rfl (P.nilCheck rfl) ?_
  refine WL.p rfl rfl rfl (P.fieldAddr fa_155_1 rfl) ?_
  refine WL.p rfl rfl rfl (P.loadO 0 Tryz.isAgg152 rfl rfl rfl) ?_
  refine WL.p rfl rfl rfl (P.eqNil Tryz.underlying152 rfl rfl) ?_
  refine WL.nil_ ?_
  refine End.seq ?_
  refine WC.cond rfl (fun hc9 => ?_) (fun hc9 => ?_)
  ·
    try simp only [decide_eq_true_eq, decide_eq_false_iff_not, beq_iff_eq, beq_eq_false_iff_ne, bne_iff_ne, bne_eq_false_iff_eq, Bool.not_eq_true', Bool.not_eq_false', ne_eq, Int.not_lt, Int.not_le] at hc9
    refine WC.seq ?_
    apply WC.draws (al := []) (vs := [_, _, _, _, _, _, _, _, _, _, _, _, fun _ => undef]) (Hs := fun v H b s => (blay [(b 12, 0, 1, [v 9 s])] H 0)) (by kernel_rfl) (by kernel_rfl) (by kernel_rfl)
    case steps =>
      refine Stps.cons (Stp.p (fun b s hd => ⟨_, ⟨rfl, P.move rfl⟩, rfl, rfl⟩)) ?_
      refine Stps.cons (Stp.p (fun b s hd => ⟨_, ⟨rfl, P.move rfl⟩, rfl, rfl⟩)) ?_
      refine Stps.cons (Stp.p (fun b s hd => ⟨_, ⟨rfl, P.nilCheck rfl⟩, rfl, rfl⟩)) ?_
      refine Stps.cons (Stp.p (fun b s hd => ⟨_, ⟨rfl, P.fieldAddr fa_155_0 rfl⟩, rfl, rfl⟩)) ?_
      refine Stps.cons (Stp.pw [12] (by kernel_rfl) (fun b s hd => ⟨_, ⟨rfl, P.loadO 0 Tryz.isAgg9 rfl rfl rfl⟩, rfl, rfl⟩)) ?_
      refine Stps.cons (Stp.p (fun b s hd => ⟨_, ⟨rfl, P.move rfl⟩, rfl, rfl⟩)) ?_
      refine Stps.cons (Stp.p (fun b s hd => ⟨_, ⟨rfl, P.nilCheck rfl⟩, rfl, rfl⟩)) ?_
      refine Stps.cons (Stp.p (fun b s hd => ⟨_, ⟨rfl, P.loadH Tryz.isAgg3 rfl (fun w hs => hread _ w hs)⟩, rfl, rfl⟩)) ?_
      refine Stps.cons (Stp.p (fun b s hd => ⟨_, ⟨rfl, P.conv (by kernel_rfl) Tryz.underlying255 rfl (wrap_u64 (by omega) (by omega))⟩, rfl, rfl⟩)) ?_
      refine Stps.cons (Stp.callv (ent_of Tryz.func247 rfl rfl) (fun b s hd => ⟨_, _, rfl, rfl, fun w hs => appendNumber_any out x w hx.1 (by omega) (by omega), rfl, rfl⟩)) ?_
      refine Stps.cons (Stp.p (fun b s hd => ⟨_, ⟨rfl, P.nilCheck rfl⟩, rfl, rfl⟩)) ?_
      refine Stps.cons (Stp.p (fun b s hd => ⟨_, ⟨rfl, P.fieldAddr fa_155_0 rfl⟩, rfl, rfl⟩)) ?_
      refine Stps.cons (Stp.store 0 0 Tryz.sizeOf9 (fun b s hd => ⟨true, _, _, _, _, _, _, rfl, rfl, rfl, rfl, rfl, rfl, rfl, rfl, rfl, rfl, rfl⟩)) ?_
      exact Stps.nil
    case h0 => exact fun s => rfl
    case agree => exact AgrAll.nil
    intro s1
    refine End.shape (ρ' := [(0, _), (1, _), (5, _), (6, _), (7, _), (8, _), (9, _), (10, _), (11, _), (12, _), (13, _), (14, _), (15, _), (16, _), (17, _), (18, _), (19, _), (20, _), (21, _)]) (H' := .blk _ _ #[_, _] :: H) (Env.sub_cons rfl (Env.sub_cons rfl (Env.sub_cons rfl (Env.sub_cons rfl (Env.sub_cons rfl (Env.sub_cons rfl (Env.sub_cons rfl (Env.sub_cons rfl (Env.sub_cons rfl (Env.sub_cons rfl (Env.sub_cons rfl (Env.sub_cons rfl (Env.sub_cons rfl (Env.sub_cons rfl (Env.sub_cons rfl (Env.sub_cons rfl (Env.sub_cons rfl (Env.sub_cons rfl (Env.sub_cons rfl (Env.sub_nil)))))))))))))))))))) rfl ?_
    refine End.seq ?_
    refine WC.ret ?_
    refine End.thenR ?_
    refine End.ret0 rfl ?_
    exact fun w' hs' => Mo.of rfl rfl hs'
  ·
    try simp only [decide_eq_true_eq, decide_eq_false_iff_not, beq_iff_eq, beq_eq_false_iff_ne, bne_iff_ne, bne_eq_false_iff_eq, Bool.not_eq_true', Bool.not_eq_false', ne_eq, Int.not_lt, Int.not_le] at hc9
    cases hc9

set_option maxRecDepth 100000 in
theorem truth_r (r c q tq off : Nat) (x : Rd) (out : ByteArray) (cs : Array Value) (w0 w : World) (H : List It) (hst : St w0 (rdB r x :: cB c out (some ⟨r, 0, none⟩) :: .blk q tq cs :: H) w) (hsz : x.1.size < 4294967296) (hoff : Nat.blt off cs.size = true) :
    Calls Tryz.prog 198 #[.pointer (some ⟨c, 0, none⟩), .pointer (some ⟨q, off, none⟩)] w (Mo w0 (.tuple #[]) (rdB r x.bool.2 :: cB c out (some ⟨r, 0, none⟩) :: .blk q tq (cs.setIfInBounds off (.bool x.bool.1)) :: H)) := by
  refine enterH Tryz.func198 rfl Tryz.ntmps198 rfl hst ?_
  refine WC.seq ?_
  refine WC.seq ?_
  refine WC.region ?_
  refine WL.p rfl rfl rfl (P.move rfl) ?_
  refine WL.p rfl rfl rfl (P.nilCheck rfl) ?_
  refine WL.p rfl rfl rfl (P.fieldAddr fa_155_1 rfl) ?_
  refine WL.p rfl rfl rfl (P.loadO 1 Tryz.isAgg152 rfl rfl rfl) ?_
  refine WL.p rfl rfl rfl (P.eqNil Tryz.underlying152 rfl rfl) ?_
  refine WL.nil_ ?_
  refine End.seq ?_
  refine WC.cond rfl (fun hc8 => ?_) (fun hc8 => ?_)
  ·
    try simp only [decide_eq_true_eq, decide_eq_false_iff_not, beq_iff_eq, beq_eq_false_iff_ne, bne_iff_ne, bne_eq_false_iff_eq, Bool.not_eq_true', Bool.not_eq_false', ne_eq, Int.not_lt, Int.not_le] at hc8
    cases hc8
  ·
    try simp only [decide_eq_true_eq, decide_eq_false_iff_not, beq_iff_eq, beq_eq_false_iff_ne, bne_iff_ne, bne_eq_false_iff_eq, Bool.not_eq_true', Bool.not_eq_false', ne_eq, Int.not_lt, Int.not_le] at hc8
    refine WC.skip ?_
    refine End.seq ?_
    refine WC.region ?_
    refine WL.p rfl rfl rfl (P.move rfl) ?_
    refine WL.p rfl rfl rfl (P.move rfl) ?_
    refine WL.p rfl rfl rfl (P.nilCheck rfl) ?_
    refine WL.p rfl rfl rfl (P.fieldAddr fa_155_1 rfl) ?_
    refine WL.p rfl rfl rfl (P.loadO 1 Tryz.isAgg152 rfl rfl rfl) ?_
    refine WL.callo (H' := _) (ent_of Tryz.func266 rfl rfl) rfl rfl rfl (fun w hs => bool_rd r x w0 w _ hs hsz) ?_
    refine WL.p rfl rfl rfl (P.nilCheck rfl) ?_
    refine WL.store 2 Tryz.sizeOf4 rfl rfl rfl rfl rfl hoff ?_
    refine WL.nil_ ?_
    refine End.norm ?_
    refine End.ret0 rfl ?_
    exact fun w' hs' => Mo.of rfl rfl hs'

set_option maxRecDepth 100000 in
theorem text_r (r c q tq off : Nat) (x : Rd) (out : ByteArray) (cs : Array Value) (w0 w : World) (H : List It) (hst : St w0 (rdB r x :: cB c out (some ⟨r, 0, none⟩) :: .blk q tq cs :: H) w) (hsz : x.1.size < 4294967296) (hoff : Nat.blt off cs.size = true) :
    Calls Tryz.prog 199 #[.pointer (some ⟨c, 0, none⟩), .pointer (some ⟨q, off, none⟩)] w (Mo w0 (.tuple #[]) (rdB r (x.text 200).2 :: cB c out (some ⟨r, 0, none⟩) :: .blk q tq (cs.setIfInBounds off (.string (x.text 200).1)) :: H)) := by
  refine enterH Tryz.func199 rfl Tryz.ntmps199 rfl hst ?_
  refine WC.seq ?_
  refine WC.seq ?_
  refine WC.region ?_
  refine WL.p rfl rfl rfl (P.move rfl) ?_
  refine WL.p rfl rfl rfl (P.nilCheck rfl) ?_
  refine WL.p rfl rfl rfl (P.fieldAddr fa_155_1 rfl) ?_
  refine WL.p rfl rfl rfl (P.loadO 1 Tryz.isAgg152 rfl rfl rfl) ?_
  refine WL.p rfl rfl rfl (P.eqNil Tryz.underlying152 rfl rfl) ?_
  refine WL.nil_ ?_
  refine End.seq ?_
  refine WC.cond rfl (fun hc8 => ?_) (fun hc8 => ?_)
  ·
    try simp only [decide_eq_true_eq, decide_eq_false_iff_not, beq_iff_eq, beq_eq_false_iff_ne, bne_iff_ne, bne_eq_false_iff_eq, Bool.not_eq_true', Bool.not_eq_false', ne_eq, Int.not_lt, Int.not_le] at hc8
    cases hc8
  ·
    try simp only [decide_eq_true_eq, decide_eq_false_iff_not, beq_iff_eq, beq_eq_false_iff_ne, bne_iff_ne, bne_eq_false_iff_eq, Bool.not_eq_true', Bool.not_eq_false', ne_eq, Int.not_lt, Int.not_le] at hc8
    refine WC.skip ?_
    refine End.seq ?_
    refine WC.region ?_
    refine WL.p rfl rfl rfl (P.move rfl) ?_
    refine WL.p rfl rfl rfl (P.move rfl) ?_
    refine WL.p rfl rfl rfl (P.nilCheck rfl) ?_
    refine WL.p rfl rfl rfl (P.fieldAddr fa_155_1 rfl) ?_
    refine WL.p rfl rfl rfl (P.loadO 1 Tryz.isAgg152 rfl rfl rfl) ?_
    refine WL.callo (H' := _) (ent_of Tryz.func172 rfl rfl) rfl rfl rfl (fun w hs => text_rd r x 200 w0 w _ hs hsz (by decide)) ?_
    refine WL.p rfl rfl rfl (P.nilCheck rfl) ?_
    refine WL.store 2 Tryz.sizeOf9 rfl rfl rfl rfl rfl hoff ?_
    refine WL.nil_ ?_
    refine End.norm ?_
    refine End.ret0 rfl ?_
    exact fun w' hs' => Mo.of rfl rfl hs'

set_option maxRecDepth 100000 in
theorem number_r (r c q tq off : Nat) (x : Rd) (out : ByteArray) (cs : Array Value) (w0 w : World) (H : List It) (hst : St w0 (rdB r x :: cB c out (some ⟨r, 0, none⟩) :: .blk q tq cs :: H) w) (hsz : x.1.size < 4294967296) (hoff : Nat.blt off cs.size = true) :
    Calls Tryz.prog 210 #[.pointer (some ⟨c, 0, none⟩), .pointer (some ⟨q, off, none⟩)] w (Mo w0 (.tuple #[]) (rdB r x.num.2 :: cB c out (some ⟨r, 0, none⟩) :: .blk q tq (cs.setIfInBounds off (.int .i64 (clampN x.num.1))) :: H)) := by
  have hn := x.num_val
  refine enterH Tryz.func210 rfl Tryz.ntmps210 rfl hst ?_
  refine WC.seq ?_
  refine WC.seq ?_
  refine WC.region ?_
  refine WL.p rfl rfl rfl (P.move rfl) ?_
  refine WL.p rfl rfl rfl (P.nilCheck rfl) ?_
  refine WL.p rfl rfl rfl (P.fieldAddr fa_155_1 rfl) ?_
  refine WL.p rfl rfl rfl (P.loadO 1 Tryz.isAgg152 rfl rfl rfl) ?_
  refine WL.p rfl rfl rfl (P.eqNil Tryz.underlying152 rfl rfl) ?_
  refine WL.nil_ ?_
  refine End.seq ?_
  refine WC.cond rfl (fun hc9 => ?_) (fun hc9 => ?_)
  ·
    try simp only [decide_eq_true_eq, decide_eq_false_iff_not, beq_iff_eq, beq_eq_false_iff_ne, bne_iff_ne, bne_eq_false_iff_eq, Bool.not_eq_true', Bool.not_eq_false', ne_eq, Int.not_lt, Int.not_le] at hc9
    cases hc9
  ·
    try simp only [decide_eq_true_eq, decide_eq_false_iff_not, beq_iff_eq, beq_eq_false_iff_ne, bne_iff_ne, bne_eq_false_iff_eq, Bool.not_eq_true', Bool.not_eq_false', ne_eq, Int.not_lt, Int.not_le] at hc9
    refine WC.skip ?_
    refine End.seq ?_
    refine WC.seq ?_
    refine WC.region ?_
    refine WL.p rfl rfl rfl (P.move rfl) ?_
    refine WL.p rfl rfl rfl (P.nilCheck rfl) ?_
    refine WL.p rfl rfl rfl (P.fieldAddr fa_155_1 rfl) ?_
    refine WL.p rfl rfl rfl (P.loadO 1 Tryz.isAgg152 rfl rfl rfl) ?_
    refine WL.callo (H' := _) (ent_of Tryz.func272 rfl rfl) rfl rfl rfl (fun w hs => number_rd r x w0 w _ hs hsz) ?_
    refine WL.p rfl rfl rfl (P.assign rfl) ?_
    refine WL.nil_ ?_
    refine End.seq ?_
    refine WC.seq ?_
    refine WC.seq ?_
    refine WC.region ?_
    refine WL.p rfl rfl rfl (P.move rfl) ?_
    refine WL.p rfl rfl rfl (P.cmp rfl rfl rfl) ?_
    refine WL.nil_ ?_
    refine End.seq ?_
    refine WC.cond rfl (fun hc28 => ?_) (fun hc28 => ?_)
    ·
      try simp only [decide_eq_true_eq, decide_eq_false_iff_not, beq_iff_eq, beq_eq_false_iff_ne, bne_iff_ne, bne_eq_false_iff_eq, Bool.not_eq_true', Bool.not_eq_false', ne_eq, Int.not_lt, Int.not_le] at hc28
      refine WC.region ?_
      refine WL.p rfl rfl rfl (P.assign rfl) ?_
      refine WL.nil_ ?_
      refine End.seq ?_
      refine WC.region ?_
      refine WL.p rfl rfl rfl (P.move rfl) ?_
      refine WL.p rfl rfl rfl (P.move rfl) ?_
      refine WL.p rfl rfl rfl (P.conv (by kernel_rfl) Tryz.underlying3 rfl rfl) ?_
      refine WL.p rfl rfl rfl (P.nilCheck rfl) ?_
      refine WL.store 2 Tryz.sizeOf3 rfl rfl rfl rfl rfl hoff ?_
      refine WL.nil_ ?_
      refine End.norm ?_
      refine End.ret0 rfl ?_
      exact fun w' hs' => Mo.of rfl (by rw [clampN, if_pos hc28]; rfl) hs'
    ·
      try simp only [decide_eq_true_eq, decide_eq_false_iff_not, beq_iff_eq, beq_eq_false_iff_ne, bne_iff_ne, bne_eq_false_iff_eq, Bool.not_eq_true', Bool.not_eq_false', ne_eq, Int.not_lt, Int.not_le] at hc28
      refine WC.skip ?_
      refine End.seq ?_
      refine WC.region ?_
      refine WL.p rfl rfl rfl (P.move rfl) ?_
      refine WL.p rfl rfl rfl (P.move rfl) ?_
      refine WL.p rfl rfl rfl (P.conv (by kernel_rfl) Tryz.underlying3 rfl rfl) ?_
      refine WL.p rfl rfl rfl (P.nilCheck rfl) ?_
      refine WL.store 2 Tryz.sizeOf3 rfl rfl rfl rfl rfl hoff ?_
      refine WL.nil_ ?_
      refine End.norm ?_
      refine End.ret0 rfl ?_
      exact fun w' hs' => Mo.of rfl (by rw [clampN, if_neg (by omega), wrap_i64 (by omega)]; rfl) hs'

end Go.Proofs.YtlkkiimmangplaaGreatDoor
