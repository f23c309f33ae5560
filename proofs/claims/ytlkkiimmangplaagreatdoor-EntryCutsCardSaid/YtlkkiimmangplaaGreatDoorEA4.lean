/- Parts: P33, P34, P38, P39, P40, P41, P42, P43, P44, P45, L1, P16, P17, P18, L2, L4, L5, L8. -/
import Derived.Test.YtlkkiimmangplaaGreatDoorEA3
import Derived.Lib.ItoaLen
import Derived.Lib.IndexBytes
import Derived.Lib.TrimByte
/- Keys, records. -/
namespace Go.Proofs.YtlkkiimmangplaaGreatDoor
open Go.RowKit
set_option linter.unusedVariables false
set_option linter.unusedSimpArgs false

def blanks (n : Nat) : ByteArray := ⟨(Lib.repeatL [32] n).toArray⟩
theorem blanks_any (n : Nat) (w : World) (hn : n ≤ 1000) : Calls Tryz.prog 61 #[.string ⟨#[32]⟩, .int .i64 (n : Int)] w (RetV w (.string (blanks n))) :=
  (Tryz.strings_Repeat ⟨#[32]⟩ n w (by omega) (by show 1 * n ≤ _; omega)).mono fun e w' ⟨h1, h2⟩ => ⟨h1, ⟨h2, fun _ _ h => by simp at h, fun _ _ _ _ h => by simp at h⟩⟩
theorem blanks_size (n : Nat) : (blanks n).size = n := by
  show (Lib.repeatL [32] n).toArray.size = n
  rw [List.size_toArray, Lib.repeatL_length]
  simp
/-- The key of an entry. -/
def KF.key (F : KF) (s : ByteArray) : ByteArray := if 31 < s.size then bempty else strOfNums [F.L] ++ s ++ blanks (31 - s.size)

set_option maxRecDepth 100000 in
theorem key_any (F : KF) (hF : F.Law) (nm : ByteArray) (w : World) (hsz : nm.size < 4294967281) (hL : 0 ≤ F.L ∧ F.L < 256) :
    Calls Tryz.prog 49 #[.int .i64 F.kind, .string nm] w (RetV w (.string (F.key nm))) := by
  obtain ⟨fi, hfi⟩ := hF.form
  refine enter Tryz.func49 rfl Tryz.ntmps49 rfl ?_
  refine WC.seq ?_
  refine WC.region ?_
  refine WL.p rfl rfl rfl (P.assign rfl) ?_
  refine WL.nil_ ?_
  refine End.seq ?_
  refine WC.seq ?_
  refine WC.region ?_
  refine WL.callx (ent_of Tryz.func114 rfl rfl) rfl rfl rfl (fun w hs => forms_any w) (fun bm _ => ?_)
  refine WL.p rfl rfl rfl (P.move rfl) ?_
  refine WL.p rfl rfl rfl (P.lookup2 0 (key := .int .i64 F.kind) (v := .agg F.form) (i := fi) Tryz.underlying130 Tryz.underlying3 (by simp [MapKept.IsKey]) rfl rfl rfl hfi) ?_
  refine WL.p rfl rfl rfl (P.move rfl) ?_
  refine WL.p rfl rfl rfl (P.extract rfl rfl) ?_
  refine WL.p rfl rfl rfl (P.extract rfl rfl) ?_
  refine WL.alloc Tryz.zeroValue128 rfl rfl (fun b5 => ?_)
  refine WL.storeW 0 Tryz.sizeOf128 rfl rfl rfl rfl rfl rfl rfl ?_
  refine WL.p rfl rfl rfl (P.assign rfl) ?_
  refine WL.nil_ ?_
  refine End.seq ?_
  refine WC.seq ?_
  refine WC.seq ?_
  refine WC.region ?_
  refine WL.p rfl rfl rfl (P.move rfl) ?_
  refine WL.p rfl rfl rfl (P.not_ rfl) ?_
  refine WL.p rfl rfl rfl (P.move rfl) ?_
  refine WL.split 15 rfl (fun hs15 => ?_) (fun hs15 => ?_)
  ·
    try simp only [decide_eq_true_eq, decide_eq_false_iff_not, beq_iff_eq, beq_eq_false_iff_ne, bne_iff_ne, bne_eq_false_iff_eq, Bool.not_eq_true', Bool.not_eq_false', ne_eq, Int.not_lt, Int.not_le] at hs15
    cases hs15
  ·
    try simp only [decide_eq_true_eq, decide_eq_false_iff_not, beq_iff_eq, beq_eq_false_iff_ne, bne_iff_ne, bne_eq_false_iff_eq, Bool.not_eq_true', Bool.not_eq_false', ne_eq, Int.not_lt, Int.not_le] at hs15
    refine WL.p rfl rfl rfl (P.move rfl) ?_
    refine WL.p rfl rfl rfl (P.lenS Tryz.underlying9 rfl) ?_
    refine WL.p rfl rfl rfl (P.cmp rfl rfl rfl) ?_
    refine WL.p rfl rfl rfl (P.pickF rfl rfl) ?_
    refine WL.nil_ ?_
    refine End.seq ?_
    refine WC.cond rfl (fun hc19 => ?_) (fun hc19 => ?_)
    ·
      try simp only [decide_eq_true_eq, decide_eq_false_iff_not, beq_iff_eq, beq_eq_false_iff_ne, bne_iff_ne, bne_eq_false_iff_eq, Bool.not_eq_true', Bool.not_eq_false', ne_eq, Int.not_lt, Int.not_le] at hc19
      refine WC.seq ?_
      refine WC.region ?_
      refine WL.p rfl rfl rfl (P.assign rfl) ?_
      refine WL.nil_ ?_
      refine End.seq ?_
      refine WC.ret ?_
      refine End.thenR ?_
      refine End.ret1 rfl rfl ?_
      exact fun w' hs' => RetV.of (by rw [KF.key, if_pos (by omega)]) hs'
    ·
      try simp only [decide_eq_true_eq, decide_eq_false_iff_not, beq_iff_eq, beq_eq_false_iff_ne, bne_iff_ne, bne_eq_false_iff_eq, Bool.not_eq_true', Bool.not_eq_false', ne_eq, Int.not_lt, Int.not_le] at hc19
      refine WC.skip ?_
      refine End.seq ?_
      refine WC.seq ?_
      refine WC.nil1 ?_
      apply WC.draws (al := [2]) (vs := [_, _, fun s => .slice (some ⟨(s 2).1, 0, none⟩) 1 1, _, _, _, _, _, _, _, _, _]) (Hs := fun v HH b s => (bnew (b 2) (It.blk (s 2).1 5 #[.int .u8 F.L]) HH 0)) (by kernel_rfl) (by kernel_rfl) (by kernel_rfl)
      case steps =>
        refine Stps.cons (Stp.p (fun b s hd => ⟨_, ⟨rfl, P.fieldAddr fa_128_0 rfl⟩, rfl, rfl⟩)) ?_
        refine Stps.cons (Stp.p (fun b s hd => ⟨_, ⟨rfl, P.loadO 1 Tryz.isAgg5 rfl rfl rfl⟩, rfl, rfl⟩)) ?_
        refine Stps.cons (Stp.row 0 rfl (fun b s => ⟨rfl, _, _, rfl, fun w => by refine run_rowL Tryz.underlying47 Tryz.sizeOf5 Tryz.zeroValue5 ?_ ?_ ?_ ?_ ?_ ?_ w <;> rfl, fun q => ⟨rfl, _, rfl, fun hb => rfl⟩⟩)) ?_
        refine Stps.cons (Stp.on [2] (by kernel_rfl) (Stp.p (fun b s' hd => ⟨_, ⟨rfl, P.bytesOwn 0 (xs := [F.L]) Tryz.underlying47 Tryz.underlying5 Tryz.underlying9 rfl rfl rfl (fun i hi => by match i, hi with | 0, _ => rfl)⟩, rfl, rfl⟩))) ?_
        refine Stps.cons (Stp.p (fun b s hd => ⟨_, ⟨rfl, P.move rfl⟩, rfl, rfl⟩)) ?_
        refine Stps.cons (Stp.p (fun b s hd => ⟨_, ⟨rfl, P.cat rfl rfl (by rw [strOfNums_size]; simp; omega)⟩, rfl, rfl⟩)) ?_
        refine Stps.cons (Stp.p (fun b s hd => ⟨_, ⟨rfl, P.move rfl⟩, rfl, rfl⟩)) ?_
        refine Stps.cons (Stp.p (fun b s hd => ⟨_, ⟨rfl, P.lenS Tryz.underlying9 rfl⟩, rfl, rfl⟩)) ?_
        refine Stps.cons (Stp.p (fun b s hd => ⟨_, ⟨rfl, P.ari64 rfl rfl rfl (by omega)⟩, rfl, rfl⟩)) ?_
        refine Stps.cons (Stp.callv (ent_of Tryz.func61 rfl rfl) (fun b s hd => ⟨_, _, rfl, rfl, fun w hs => by have := blanks_any (31 - nm.size) w (by omega); rwa [show ((31 - nm.size : Nat) : Int) = 31 - (nm.size : Int) by omega] at this, rfl, rfl⟩)) ?_
        refine Stps.cons (Stp.p (fun b s hd => ⟨_, ⟨rfl, P.cat rfl rfl (by rw [size_append, strOfNums_size, blanks_size]; simp; omega)⟩, rfl, rfl⟩)) ?_
        refine Stps.cons (Stp.p (fun b s hd => ⟨_, ⟨rfl, P.assign rfl⟩, rfl, rfl⟩)) ?_
        exact Stps.nil
      case h0 => exact fun s => rfl
      case agree => exact AgrAll.cons (AgrL.no (fun s x => rfl) (AgrL.no (fun s x => rfl) (AgrL.yes (by kernel_rfl) (AgrL.yes (by kernel_rfl) (AgrL.no (fun s x => rfl) (AgrL.yes (by kernel_rfl) (AgrL.no (fun s x => rfl) (AgrL.no (fun s x => rfl) (AgrL.no (fun s x => rfl) (AgrL.no (fun s x => rfl) (AgrL.yes (by kernel_rfl) (AgrL.yes (by kernel_rfl) (AgrL.nil))))))))))))) (AgrAll.nil)
      intro s4
      refine End.shape (ρ' := [(0, _), (1, _), (4, _), (5, _), (6, _), (7, _), (8, _), (9, _), (10, _), (11, _), (12, _), (13, _), (14, _), (15, _), (16, _), (17, _), (18, _), (19, _), (20, _), (21, _), (22, _), (23, _), (24, _), (25, _), (26, _), (27, _), (28, _), (29, _), (30, _)]) (H' := [_, _, _]) (Env.sub_cons rfl (Env.sub_cons rfl (Env.sub_cons rfl (Env.sub_cons rfl (Env.sub_cons rfl (Env.sub_cons rfl (Env.sub_cons rfl (Env.sub_cons rfl (Env.sub_cons rfl (Env.sub_cons rfl (Env.sub_cons rfl (Env.sub_cons rfl (Env.sub_cons rfl (Env.sub_cons rfl (Env.sub_cons rfl (Env.sub_cons rfl (Env.sub_cons rfl (Env.sub_cons rfl (Env.sub_cons rfl (Env.sub_cons rfl (Env.sub_cons rfl (Env.sub_cons rfl (Env.sub_cons rfl (Env.sub_cons rfl (Env.sub_cons rfl (Env.sub_cons rfl (Env.sub_cons rfl (Env.sub_cons rfl (Env.sub_cons rfl (Env.sub_nil)))))))))))))))))))))))))))))) rfl ?_
      refine End.seq ?_
      refine WC.ret ?_
      refine End.ret1 rfl rfl ?_
      exact fun w' hs' => RetV.of (by rw [KF.key, if_neg (by omega)]; rfl) hs'

set_option maxRecDepth 100000 in
theorem key_none (k : Int) (nm : ByteArray) (w : World) (hk : Instr.findNow (.int .i64) (.int .i64 k) formsEs.toList 0 = some none) :
    Calls Tryz.prog 49 #[.int .i64 k, .string nm] w (RetV w (.string ⟨#[]⟩)) := by
  refine enter Tryz.func49 rfl Tryz.ntmps49 rfl ?_
  refine WC.seq ?_
  refine WC.region ?_
  refine WL.p rfl rfl rfl (P.assign rfl) ?_
  refine WL.nil_ ?_
  refine End.seq ?_
  refine WC.seq ?_
  refine WC.region ?_
  refine WL.callx (ent_of Tryz.func114 rfl rfl) rfl rfl rfl (fun w hs => forms_any w) (fun bm _ => ?_)
  refine WL.p rfl rfl rfl (P.move rfl) ?_
  refine WL.p rfl rfl rfl (P.lookup2n 0 (key := .int .i64 k) Tryz.underlying130 Tryz.underlying3 (by simp [MapKept.IsKey]) Tryz.zeroValue128 rfl rfl rfl hk) ?_
  refine WL.p rfl rfl rfl (P.move rfl) ?_
  refine WL.p rfl rfl rfl (P.extract rfl rfl) ?_
  refine WL.p rfl rfl rfl (P.extract rfl rfl) ?_
  refine WL.alloc Tryz.zeroValue128 rfl rfl (fun b5 => ?_)
  refine WL.storeW 0 Tryz.sizeOf128 rfl rfl rfl rfl rfl rfl rfl ?_
  refine WL.p rfl rfl rfl (P.assign rfl) ?_
  refine WL.nil_ ?_
  refine End.seq ?_
  refine WC.seq ?_
  refine WC.seq ?_
  refine WC.region ?_
  refine WL.p rfl rfl rfl (P.move rfl) ?_
  refine WL.p rfl rfl rfl (P.not_ rfl) ?_
  refine WL.p rfl rfl rfl (P.move rfl) ?_
  refine WL.split 15 rfl (fun hs15 => ?_) (fun hs15 => ?_)
  ·
    try simp only [decide_eq_true_eq, decide_eq_false_iff_not, beq_iff_eq, beq_eq_false_iff_ne, bne_iff_ne, bne_eq_false_iff_eq, Bool.not_eq_true', Bool.not_eq_false', ne_eq, Int.not_lt, Int.not_le] at hs15
    refine WL.off rfl rfl ?_
    refine WL.off rfl rfl ?_
    refine WL.off rfl rfl ?_
    refine WL.p rfl rfl rfl (P.pickT rfl rfl) ?_
    refine WL.nil_ ?_
    refine End.seq ?_
    refine WC.condT rfl ?_
    refine WC.seq ?_
    refine WC.region ?_
    refine WL.p rfl rfl rfl (P.assign rfl) ?_
    refine WL.nil_ ?_
    refine End.seq ?_
    refine WC.ret ?_
    refine End.thenR ?_
    refine End.ret1 rfl rfl ?_
    exact fun w' hs' => RetV.of rfl hs'
  ·
    try simp only [decide_eq_true_eq, decide_eq_false_iff_not, beq_iff_eq, beq_eq_false_iff_ne, bne_iff_ne, bne_eq_false_iff_eq, Bool.not_eq_true', Bool.not_eq_false', ne_eq, Int.not_lt, Int.not_le] at hs15
    cases hs15

section
variable {w0 : World} {n : Nat} {o : Oper} {ρ : Env} {H : List It}
variable {d : Nat} {ty t t' : TypeId} {pos : String} {af : Array Edge} {g : Option (Nat × Bool)} {x y z : Operand} {v u : Value}
/-- A look with one result, at a key that is there. -/
theorem P.lookup1 (j : Nat) {kt et : TypeId} {kd : TypeDesc} {b c i : Nat} {es : Array MapEntry} {key : Value} (hm : Tryz.prog.underlying t = some (.map kt et)) (hk : Tryz.prog.underlying kt = some kd) (hkey : MapKept.IsKey kd key) (hx : ev ρ x = some (.map (some b))) (hy : ev ρ y = some key) (hj : H[j]? = some (.map b es c))
    (hf : Instr.findNow kd key es.toList 0 = some (some (i, v))) : Pure w0 n ρ H ⟨some d, .lookup t x y false, ty, pos, af, g⟩ v :=
  fun a w hfit hs => by
    have hb := (hs.ok j _ hj).2
    have hc : ∀ e, (Instr.checkKey e 10000 kt key).run Tryz.prog w = .ok () w := fun e => MapKept.run_checkKey (k := key) hk hkey e 9999
    simp [execOp, hfit.eval hx, hfit.eval hy, Instr.lookup, run_underlying hm, MapKept.run_getObj_map hb, hc, MapKept.run_findKey hk hf, Result.andThen]
end
theorem KF.valid_ok {F : KF} {e : E} (h : F.valid e = true) : F.nm e.name = true ∧ F.ok e = true := by
  unfold KF.valid at h
  rw [Bool.and_eq_true, Bool.and_eq_true] at h
  exact ⟨h.1, h.2.1⟩
/-- The record of an entry. -/
def KF.record (F : KF) (e : E) : ByteArray := F.key e.name ++ F.out bempty e
theorem KF.key_size (F : KF) (s : ByteArray) : (F.key s).size ≤ 32 := by
  unfold KF.key
  split
  · decide
  · rw [size_append, size_append, strOfNums_size, blanks_size]; simp; omega

set_option maxRecDepth 100000 in
theorem encode_any (F : KF) (hF : F.Law) (e : E) (va vg : Value) (w : World) (hg : Good w) (hk : e.kind = F.kind) (ha : EntAt w e va vg) (hsz : e.name.size < 4294967281) (hL : 0 ≤ F.L ∧ F.L < 256) :
    Calls Tryz.prog 54 #[.agg (e.cells va vg)] w (RetV w (.tuple #[.string (if F.valid e = true then F.record e else ⟨#[]⟩), .int .i64 (if F.valid e = true then 0 else 1)])) := by
  have ha0 := ha
  obtain ⟨fi, hfi⟩ := hF.form
  obtain ⟨⟨A1, c1, rfl, hc1, hr1⟩, ⟨A2, c2, rfl, hc2, hr2⟩⟩ := ha
  refine enter Tryz.func54 rfl Tryz.ntmps54 rfl ?_
  refine WC.seq ?_
  refine WC.region ?_
  refine WL.box rfl rfl rfl (fun b1 => ?_)
  refine WL.p rfl rfl rfl (P.assign rfl) ?_
  refine WL.p rfl rfl rfl (P.assign rfl) ?_
  refine WL.nil_ ?_
  refine End.seq ?_
  refine WC.seq ?_
  refine WC.seq ?_
  refine WC.region ?_
  refine WL.p rfl rfl rfl (P.loadW 0 Tryz.isAgg34 Tryz.sizeOf34 rfl rfl rfl) ?_
  refine WL.callv (ent_of Tryz.func47 rfl rfl) rfl rfl rfl (fun w hs => valid_any F hF e _ _ w (hg.st hs) hk (ha0.st hs) hsz) ?_
  refine WL.p rfl rfl rfl (P.not_ rfl) ?_
  refine WL.nil_ ?_
  refine End.seq ?_
  refine WC.cond rfl (fun hc6 => ?_) (fun hc6 => ?_)
  ·
    try simp only [decide_eq_true_eq, decide_eq_false_iff_not, beq_iff_eq, beq_eq_false_iff_ne, bne_iff_ne, bne_eq_false_iff_eq, Bool.not_eq_true', Bool.not_eq_false', ne_eq, Int.not_lt, Int.not_le] at hc6
    refine WC.seq ?_
    refine WC.region ?_
    refine WL.p rfl rfl rfl (P.assign rfl) ?_
    refine WL.p rfl rfl rfl (P.assign rfl) ?_
    refine WL.nil_ ?_
    refine End.seq ?_
    refine WC.ret ?_
    refine End.thenR ?_
    refine End.ret2 rfl rfl rfl ?_
    exact fun w' hs' => RetV.of (by rw [if_neg (by rw [hc6]; simp), if_neg (by rw [hc6]; simp)]) hs'
  ·
    try simp only [decide_eq_true_eq, decide_eq_false_iff_not, beq_iff_eq, beq_eq_false_iff_ne, bne_iff_ne, bne_eq_false_iff_eq, Bool.not_eq_true', Bool.not_eq_false', ne_eq, Int.not_lt, Int.not_le] at hc6
    have hvo := KF.valid_ok hc6
    have hz1 := F.key_size e.name
    have hz2 := hF.size e bempty hvo.2
    have hz3 : bempty.size = 0 := rfl
    refine WC.skip ?_
    refine End.seq ?_
    refine WC.seq ?_
    refine WC.nil1 ?_
    apply WC.draws (al := [5]) (vs := [_, _, _, _, _, fun s => .map (some (s 5).1), _, _, fun _ => .agg F.form, _, _, _, _, _]) (Hs := fun v HH b s => (bnew (b 5) (It.map (s 5).1 formsEs 5) HH 0)) (by kernel_rfl) (by kernel_rfl) (by kernel_rfl)
    case steps =>
      refine Stps.cons (Stp.p (fun b s hd => ⟨_, ⟨rfl, P.fieldAddr fa_34_0 rfl⟩, rfl, rfl⟩)) ?_
      refine Stps.cons (Stp.p (fun b s hd => ⟨_, ⟨rfl, P.loadO 1 Tryz.isAgg3 rfl rfl rfl⟩, rfl, rfl⟩)) ?_
      refine Stps.cons (Stp.p (fun b s hd => ⟨_, ⟨rfl, P.fieldAddr fa_34_1 rfl⟩, rfl, rfl⟩)) ?_
      refine Stps.cons (Stp.p (fun b s hd => ⟨_, ⟨rfl, P.loadO 1 Tryz.isAgg9 rfl rfl rfl⟩, rfl, rfl⟩)) ?_
      refine Stps.cons (Stp.callv (ent_of Tryz.func49 rfl rfl) (fun b s hd => ⟨_, _, rfl, rfl, fun w hs => by have := key_any F hF e.name w hsz hL; rw [← hk] at this; exact this, rfl, rfl⟩)) ?_
      refine Stps.cons (Stp.callx 0 (ent_of Tryz.func114 rfl rfl) rfl (fun b s hb hd => ⟨_, _, _, _, rfl, rfl, fun w hs => forms_any w, fun q => rfl, ⟨_, rfl⟩, fun q => rfl⟩)) ?_
      refine Stps.cons (Stp.p (fun b s hd => ⟨_, ⟨rfl, P.fieldAddr fa_34_0 rfl⟩, rfl, rfl⟩)) ?_
      refine Stps.cons (Stp.p (fun b s hd => ⟨_, ⟨rfl, P.loadO 1 Tryz.isAgg3 rfl rfl rfl⟩, rfl, rfl⟩)) ?_
      refine Stps.cons (Stp.on [5] (by kernel_rfl) (Stp.p (fun b s hd => ⟨_, ⟨rfl, P.lookup1 0 (key := .int .i64 e.kind) (v := .agg F.form) (i := fi) Tryz.underlying130 Tryz.underlying3 (by simp [MapKept.IsKey]) rfl rfl rfl (by rw [hk]; exact hfi)⟩, rfl, rfl⟩))) ?_
      refine Stps.cons (Stp.p (fun b s hd => ⟨_, ⟨rfl, P.loadW 1 Tryz.isAgg34 Tryz.sizeOf34 rfl rfl rfl⟩, rfl, rfl⟩)) ?_
      refine Stps.cons (Stp.callv (ent_of Tryz.func140 rfl rfl) (fun b s hd => ⟨_, _, rfl, rfl, fun w hs => body_any F hF e _ _ w hvo.2 (ha0.st hs), rfl, rfl⟩)) ?_
      refine Stps.cons (Stp.p (fun b s hd => ⟨_, ⟨rfl, P.cat rfl rfl (by omega)⟩, rfl, rfl⟩)) ?_
      refine Stps.cons (Stp.p (fun b s hd => ⟨_, ⟨rfl, P.assign rfl⟩, rfl, rfl⟩)) ?_
      refine Stps.cons (Stp.p (fun b s hd => ⟨_, ⟨rfl, P.assign rfl⟩, rfl, rfl⟩)) ?_
      exact Stps.nil
    case h0 => exact fun s => rfl
    case agree => exact AgrAll.cons (AgrL.no (fun s x => rfl) (AgrL.no (fun s x => rfl) (AgrL.no (fun s x => rfl) (AgrL.no (fun s x => rfl) (AgrL.no (fun s x => rfl) (AgrL.yes (by kernel_rfl) (AgrL.no (fun s x => rfl) (AgrL.no (fun s x => rfl) (AgrL.yes (by kernel_rfl) (AgrL.no (fun s x => rfl) (AgrL.yes (by kernel_rfl) (AgrL.yes (by kernel_rfl) (AgrL.yes (by kernel_rfl) (AgrL.yes (by kernel_rfl) (AgrL.nil))))))))))))))) (AgrAll.nil)
    intro s3
    refine End.shape (ρ' := [(0, _), (1, _), (2, _), (3, _), (4, _), (5, _), (6, _), (7, _), (8, _), (9, _), (10, _), (11, _), (12, _), (13, _), (14, _), (15, _), (16, _), (17, _), (18, _)]) (H' := [_, _]) (Env.sub_cons rfl (Env.sub_cons rfl (Env.sub_cons rfl (Env.sub_cons rfl (Env.sub_cons rfl (Env.sub_cons rfl (Env.sub_cons rfl (Env.sub_cons rfl (Env.sub_cons rfl (Env.sub_cons rfl (Env.sub_cons rfl (Env.sub_cons rfl (Env.sub_cons rfl (Env.sub_cons rfl (Env.sub_cons rfl (Env.sub_cons rfl (Env.sub_cons rfl (Env.sub_cons rfl (Env.sub_cons rfl (Env.sub_nil)))))))))))))))))))) rfl ?_
    refine End.seq ?_
    refine WC.ret ?_
    refine End.ret2 rfl rfl rfl ?_
    exact fun w' hs' => RetV.of (by rw [if_pos hc6, if_pos hc6]; rfl) hs'

set_option maxRecDepth 100000 in
theorem encode_none (e : E) (va vg : Value) (w : World) (hk : Instr.findNow (.int .i64) (.int .i64 e.kind) formsEs.toList 0 = some none) :
    Calls Tryz.prog 54 #[.agg (e.cells va vg)] w (RetV w (.tuple #[.string ⟨#[]⟩, .int .i64 1])) := by
  refine enter Tryz.func54 rfl Tryz.ntmps54 rfl ?_
  refine WC.seq ?_
  refine WC.region ?_
  refine WL.box rfl rfl rfl (fun b1 => ?_)
  refine WL.p rfl rfl rfl (P.assign rfl) ?_
  refine WL.p rfl rfl rfl (P.assign rfl) ?_
  refine WL.nil_ ?_
  refine End.seq ?_
  refine WC.seq ?_
  refine WC.seq ?_
  refine WC.region ?_
  refine WL.p rfl rfl rfl (P.loadW 0 Tryz.isAgg34 Tryz.sizeOf34 rfl rfl rfl) ?_
  refine WL.callv (ent_of Tryz.func47 rfl rfl) rfl rfl rfl (fun w hs => valid_none e _ _ w hk) ?_
  refine WL.p rfl rfl rfl (P.not_ rfl) ?_
  refine WL.nil_ ?_
  refine End.seq ?_
  refine WC.cond rfl (fun hc6 => ?_) (fun hc6 => ?_)
  ·
    try simp only [decide_eq_true_eq, decide_eq_false_iff_not, beq_iff_eq, beq_eq_false_iff_ne, bne_iff_ne, bne_eq_false_iff_eq, Bool.not_eq_true', Bool.not_eq_false', ne_eq, Int.not_lt, Int.not_le] at hc6
    refine WC.seq ?_
    refine WC.region ?_
    refine WL.p rfl rfl rfl (P.assign rfl) ?_
    refine WL.p rfl rfl rfl (P.assign rfl) ?_
    refine WL.nil_ ?_
    refine End.seq ?_
    refine WC.ret ?_
    refine End.thenR ?_
    refine End.ret2 rfl rfl rfl ?_
    exact fun w' hs' => RetV.of rfl hs'
  ·
    try simp only [decide_eq_true_eq, decide_eq_false_iff_not, beq_iff_eq, beq_eq_false_iff_ne, bne_iff_ne, bne_eq_false_iff_eq, Bool.not_eq_true', Bool.not_eq_false', ne_eq, Int.not_lt, Int.not_le] at hc6
    cases hc6

end Go.Proofs.YtlkkiimmangplaaGreatDoor

/- Records read back. -/
namespace Go.Proofs.YtlkkiimmangplaaGreatDoor
open Go.RowKit
set_option linter.unusedVariables false
set_option linter.unusedSimpArgs false

/-- The five kinds. -/
structure Fam (K : Nat → KF) : Prop where
  law : ∀ i : Nat, i < 5 → (K i).Law
  kind : ∀ i : Nat, i < 5 → (K i).kind = (i : Int)
  ent : ∀ i : Nat, i < 5 → formsEs.toList[i]? = some ⟨.int .i64 (i : Int), .agg (K i).form, i⟩
theorem Fam.mem {K : Nat → KF} (hK : Fam K) {e : MapEntry} (he : e ∈ formsEs.toList) : ∃ i : Nat, i < 5 ∧ e = ⟨.int .i64 (i : Int), .agg (K i).form, i⟩ := by
  obtain ⟨i, hi⟩ := List.mem_iff_getElem?.1 he
  have hlt : i < 5 := (List.getElem?_eq_some_iff.1 hi).1
  rw [hK.ent i hlt] at hi
  cases hi
  exact ⟨i, hlt, rfl⟩
theorem Fam.all {K : Nat → KF} (hK : Fam K) {i : Nat} (hi : i < 5) : (⟨.int .i64 (i : Int), .agg (K i).form, i⟩ : MapEntry) ∈ formsEs.toList := List.mem_of_getElem? (hK.ent i hi)
def trimR (s : ByteArray) : ByteArray := ⟨(Lib.trimRightB s.data.toList 32).toArray⟩
theorem trim_any (s : ByteArray) (w : World) (h : s.size < 4294967281) : Calls Tryz.prog 142 #[.string s, .string ⟨#[32]⟩] w (RetV w (.string (trimR s))) :=
  (Tryz.strings_TrimRight_one s 32 (by decide) w (by omega)).mono fun e w' ⟨h1, h2⟩ => ⟨h1, by rw [h2]; exact St.refl w⟩
theorem dropWhile_len {α : Type} (p : α → Bool) : ∀ l : List α, (l.dropWhile p).length ≤ l.length
  | [] => Nat.le_refl _
  | x :: r => by
    rw [List.dropWhile_cons]
    split
    · exact Nat.le_trans (dropWhile_len p r) (Nat.le_succ _)
    · exact Nat.le_refl _
theorem trimR_size (s : ByteArray) : (trimR s).size ≤ s.size := by
  show (Lib.trimRightB s.data.toList 32).toArray.size ≤ s.data.size
  unfold Lib.trimRightB
  have := dropWhile_len (fun x => x == (32 : UInt8)) s.data.toList.reverse
  simpa using this
def letterOf (s : ByteArray) : Int := ((s.data.toList[(0 : Int).toNat]?.getD 0).toNat : Int)
/-- What a record reads as, at one kind. -/
def dE0 (i : Nat) (s : ByteArray) : E := { E.zero with kind := (i : Int), name := trimR (s.extract 1 32) }
def dE (K : Nat → KF) (s : ByteArray) (i : Nat) : E × Rd := (K i).rd (dE0 i s) (s.extract 32 s.size, 0)
def decI (K : Nat → KF) (s : ByteArray) (i : Nat) : Bool := ((K i).L == letterOf s) && (((dE K s i).2.end_ == 0) && (((if (K i).valid (dE K s i).1 = true then (0 : Int) else 1) == 0) && ((if (K i).valid (dE K s i).1 = true then (K i).record (dE K s i).1 else ⟨#[]⟩).toList == s.toList)))
def unseen (l : List Nat) : Nat := (if 0 ∈ l then 0 else 1) + (if 1 ∈ l then 0 else 1) + (if 2 ∈ l then 0 else 1) + (if 3 ∈ l then 0 else 1) + (if 4 ∈ l then 0 else 1)
theorem unseen_lt {l : List Nat} {i : Nat} (hi : i < 5) (h : ¬ i ∈ l) : unseen (l ++ [i]) < unseen l := by
  have key : ∀ j, (if j ∈ l ++ [i] then 0 else 1) ≤ (if j ∈ l then 0 else 1) := fun j => by
    by_cases hj : j ∈ l
    · rw [if_pos (List.mem_append_left _ hj)]; exact Nat.zero_le _
    · rw [if_neg hj]; split <;> omega
  have ki : (if i ∈ l ++ [i] then 0 else 1) < (if i ∈ l then 0 else 1) := by
    rw [if_pos (List.mem_append_right _ (List.mem_singleton.2 rfl)), if_neg h]; decide
  have h0 := key 0; have h1 := key 1; have h2 := key 2; have h3 := key 3; have h4 := key 4
  unfold unseen
  rcases (by omega : i = 0 ∨ i = 1 ∨ i = 2 ∨ i = 3 ∨ i = 4) with rfl | rfl | rfl | rfl | rfl <;> omega
theorem seen_push {K : Nat → KF} {s : ByteArray} {seen : Array Nat} {i : Nat} (h : ∀ j, j < 5 → j ∈ seen.toList → decI K s j = false) (hi : decI K s i = false) : ∀ j, j < 5 → j ∈ (seen.push i).toList → decI K s j = false := fun j hj hm => by
  rw [Array.toList_push, List.mem_append, List.mem_singleton] at hm
  rcases hm with hm | rfl
  · exact h j hj hm
  · exact hi
theorem bne_t {a b : Int} (h : (a != b) = true) : (a == b) = false := by
  rw [bne, Bool.not_eq_true'] at h
  exact h
theorem bne_f {a b : Int} (h : (a != b) = false) : (a == b) = true := by
  rw [bne, Bool.not_eq_false'] at h
  exact h
/-- What Decode hands back. -/
def DecR (K : Nat → KF) (w : World) (s : ByteArray) (en : Ending) (w' : World) : Prop :=
  (∃ i b : Nat, i < 5 ∧ (32 ≤ s.size ∧ s.size ≤ 200) ∧ decI K s i = true ∧ en = .returned (.tuple #[.agg ((dE K s i).1.cells ((K i).va b (dE K s i).1) ((K i).vg b (dE K s i).1)), .int .i64 0]) ∧ St w [(K i).it b (dE K s i).1] w') ∨
  (((s.size < 32 ∨ 200 < s.size) ∨ ∀ i, i < 5 → decI K s i = false) ∧ RetV w (.tuple #[.agg (E.zero.cells vnil vnil), .int .i64 11]) en w')

set_option maxRecDepth 100000 in
theorem decodeE_any (K : Nat → KF) (hK : Fam K) (s : ByteArray) (w : World) (hg : Good w) (hsz : s.size < 4294967281) :
    Calls Tryz.prog 56 #[.string s] w (DecR K w s) := by
  refine enter Tryz.func56 rfl Tryz.ntmps56 rfl ?_
  refine WC.seq ?_
  refine WC.region ?_
  refine WL.alloc Tryz.zeroValue34 rfl rfl (fun b2 => ?_)
  refine WL.p rfl rfl rfl (P.assign rfl) ?_
  refine WL.nil_ ?_
  refine End.seq ?_
  refine WC.seq ?_
  refine WC.region ?_
  refine WL.p rfl rfl rfl (P.assign rfl) ?_
  refine WL.nil_ ?_
  refine End.seq ?_
  refine WC.seq ?_
  refine WC.seq ?_
  refine WC.region ?_
  refine WL.p rfl rfl rfl (P.move rfl) ?_
  refine WL.p rfl rfl rfl (P.lenS Tryz.underlying9 rfl) ?_
  refine WL.p rfl rfl rfl (P.move rfl) ?_
  refine WL.p rfl rfl rfl (P.cmp rfl rfl rfl) ?_
  refine WL.p rfl rfl rfl (P.move rfl) ?_
  refine WL.split 15 rfl (fun hs15 => ?_) (fun hs15 => ?_)
  ·
    refine WL.off rfl rfl ?_
    refine WL.off rfl rfl ?_
    refine WL.off rfl rfl ?_
    refine WL.p rfl rfl rfl (P.pickT rfl rfl) ?_
    refine WL.nil_ ?_
    refine End.seq ?_
    refine WC.condT rfl ?_
    refine WC.seq ?_
    refine WC.region ?_
    refine WL.p rfl rfl rfl (P.build rfl (fun w => bo_34 Tryz.zeroValue34 (cs := #[_, _, _, _, _, _, _, _, _, _, _, _, _, _, _, _, _, _, _, _, _, _, _, _, _, _, _, _, _, _, _, _, _]) rfl rfl w)) ?_
    refine WL.storeW 0 Tryz.sizeOf34 rfl rfl rfl rfl rfl rfl rfl ?_
    refine WL.p rfl rfl rfl (P.assign rfl) ?_
    refine WL.nil_ ?_
    refine End.seq ?_
    refine WC.ret ?_
    refine End.thenR ?_
    refine End.retCT 0 rfl Tryz.isAgg34 Tryz.sizeOf34 rfl rfl rfl rfl ?_
    exact fun w' hs' => .inr ⟨.inl (.inl (by have := of_decide_eq_true hs15; omega)), RetV.of rfl hs'⟩
  ·
    refine WL.p rfl rfl rfl (P.move rfl) ?_
    refine WL.p rfl rfl rfl (P.lenS Tryz.underlying9 rfl) ?_
    refine WL.p rfl rfl rfl (P.cmp rfl rfl rfl) ?_
    refine WL.p rfl rfl rfl (P.pickF rfl rfl) ?_
    refine WL.nil_ ?_
    refine End.seq ?_
    refine WC.cond rfl (fun hc19 => ?_) (fun hc19 => ?_)
    ·
      refine WC.seq ?_
      refine WC.region ?_
      refine WL.p rfl rfl rfl (P.build rfl (fun w => bo_34 Tryz.zeroValue34 (cs := #[_, _, _, _, _, _, _, _, _, _, _, _, _, _, _, _, _, _, _, _, _, _, _, _, _, _, _, _, _, _, _, _, _]) rfl rfl w)) ?_
      refine WL.storeW 0 Tryz.sizeOf34 rfl rfl rfl rfl rfl rfl rfl ?_
      refine WL.p rfl rfl rfl (P.assign rfl) ?_
      refine WL.nil_ ?_
      refine End.seq ?_
      refine WC.ret ?_
      refine End.thenR ?_
      refine End.retCT 0 rfl Tryz.isAgg34 Tryz.sizeOf34 rfl rfl rfl rfl ?_
      exact fun w' hs' => .inr ⟨.inl (.inr (by have := of_decide_eq_true hc19; omega)), RetV.of rfl hs'⟩
    ·
      have hlo : 32 ≤ s.size := by have := of_decide_eq_false hs15; omega
      have hhi : s.size ≤ 200 := by have := of_decide_eq_false hc19; omega
      refine WC.skip ?_
      refine End.seq ?_
      refine WC.seq ?_
      refine WC.seq ?_
      refine WC.region ?_
      refine WL.callx (ent_of Tryz.func114 rfl rfl) rfl rfl rfl (fun w hs => forms_any w) (fun bm _ => ?_)
      refine WL.range 0 Tryz.underlying130 rfl rfl rfl rfl (fun r22 => ?_)
      refine WL.nil_ ?_
      refine End.seq ?_
      refine WC.block ?_
      refine WC.loopD (σ := Array Nat) (fun seen => []) (fun seen => [.obj r22 (.mapIter (some bm) 5 seen 5), .map bm formsEs 5, .blk b2 34 (E.zero.cells vnil vnil)]) (fun seen => ∀ i, i < 5 → i ∈ seen.toList → decI K s i = false) (fun seen => unseen seen.toList) #[] (fun i _ h => by simp at h) (Env.sub_nil) [0, 1, 2] rfl rfl ?_
      rintro seen hseen
      refine WC.seq ?_
      refine WC.region ?_
      refine WL.next 0 1 rfl rfl rfl rfl rfl (by decide) (fun hall => ?_) (fun e5 he5 hno5 => ?_)
      ·
        refine WL.p rfl rfl rfl (P.extract rfl rfl) ?_
        refine WL.nil_ ?_
        refine End.seq ?_
        refine WC.seq ?_
        refine WC.condF rfl ?_
        refine WC.exit ?_
        refine End.thenX ?_
        refine End.thenX ?_
        refine End.blkX ?_
        refine End.seq ?_
        refine WC.seq ?_
        refine WC.region ?_
        refine WL.p rfl rfl rfl (P.build rfl (fun w => bo_34 Tryz.zeroValue34 (cs := #[_, _, _, _, _, _, _, _, _, _, _, _, _, _, _, _, _, _, _, _, _, _, _, _, _, _, _, _, _, _, _, _, _]) rfl rfl w)) ?_
        refine WL.storeW 2 Tryz.sizeOf34 rfl rfl rfl rfl rfl rfl rfl ?_
        refine WL.p rfl rfl rfl (P.assign rfl) ?_
        refine WL.nil_ ?_
        refine End.seq ?_
        refine WC.ret ?_
        refine End.retCT 2 rfl Tryz.isAgg34 Tryz.sizeOf34 rfl rfl rfl rfl ?_
        exact fun w' hs' => .inr ⟨.inr (fun i hi => hseen i hi (hall _ (hK.all hi))), RetV.of rfl hs'⟩
      ·
        obtain ⟨i, hi, rfl⟩ := hK.mem he5
        have hF := hK.law i hi
        have hkd := hK.kind i hi
        refine WL.p rfl rfl rfl (P.extract rfl rfl) ?_
        refine WL.nil_ ?_
        refine End.seq ?_
        refine WC.seq ?_
        refine WC.condT rfl ?_
        refine WC.skip ?_
        refine End.seq ?_
        refine WC.block ?_
        refine WC.seq ?_
        refine WC.region ?_
        refine WL.p rfl rfl rfl (P.entry (e := ⟨.int .i64 (i : Int), .agg (K i).form, i⟩) 0 1 rfl rfl rfl (hK.all hi) (by decide)) ?_
        refine WL.p rfl rfl rfl (P.extract rfl rfl) ?_
        refine WL.p rfl rfl rfl (P.extract rfl rfl) ?_
        refine WL.alloc Tryz.zeroValue128 rfl rfl (fun b6 => ?_)
        refine WL.p rfl rfl rfl (P.assign rfl) ?_
        refine WL.storeW 0 Tryz.sizeOf128 rfl rfl rfl rfl rfl rfl rfl ?_
        refine WL.nil_ ?_
        refine End.seq ?_
        refine WC.seq ?_
        refine WC.seq ?_
        refine WC.quiet (by kernel_rfl) ?_
        refine WQ.p rfl rfl rfl (P.fieldAddr fa_128_0 rfl) ?_
        refine WQ.p rfl rfl rfl (P.loadO 0 Tryz.isAgg5 rfl rfl rfl) ?_
        refine WQ.p rfl rfl rfl (P.move rfl) ?_
        refine WQ.p rfl rfl rfl (P.byte Tryz.underlying9 rfl rfl (by omega) (by omega)) ?_
        refine WQ.p rfl rfl rfl (P.cmp rfl rfl rfl) ?_
        refine WQ.nil_ ?_
        refine End.seq ?_
        refine WC.cond rfl (fun hc32 => ?_) (fun hc32 => ?_)
        ·
          refine WC.exit ?_
          refine End.thenX ?_
          refine End.blkX ?_
          refine End.againD (seen.push i) ?_ ?_ rfl (Env.sub_nil) rfl [1, 2, 3] rfl rfl
          · exact seen_push hseen (by rw [decI, show ((K i).L == letterOf s) = false from bne_t hc32]; rfl)
          · show unseen (seen.push i).toList < unseen seen.toList; rw [Array.toList_push]; exact unseen_lt hi hno5
        ·
          refine WC.skip ?_
          refine End.seq ?_
          refine WC.seq ?_
          refine WC.region ?_
          refine WL.p rfl rfl rfl (P.move rfl) ?_
          refine WL.p rfl rfl rfl (P.move rfl) ?_
          refine WL.p rfl rfl rfl (P.move rfl) ?_
          refine WL.p rfl rfl rfl (P.subLH Tryz.underlying9 rfl rfl rfl (by omega) (by omega) (by omega)) ?_
          refine WL.callv (ent_of Tryz.func142 rfl rfl) rfl rfl rfl (fun w hs => trim_any _ w (by simp [ByteArray.size_extract]; omega)) ?_
          refine WL.p rfl rfl rfl (P.build rfl (fun w => bo_34 Tryz.zeroValue34 (cs := #[_, _, _, _, _, _, _, _, _, _, _, _, _, _, _, _, _, _, _, _, _, _, _, _, _, _, _, _, _, _, _, _, _]) rfl rfl w)) ?_
          refine WL.alloc Tryz.zeroValue34 rfl rfl (fun b7 => ?_)
          refine WL.storeW 0 Tryz.sizeOf34 rfl rfl rfl rfl rfl rfl rfl ?_
          refine WL.nil_ ?_
          refine End.seq ?_
          refine WC.seq ?_
          refine WC.region ?_
          refine WL.p rfl rfl rfl (P.move rfl) ?_
          refine WL.p rfl rfl rfl (P.move rfl) ?_
          refine WL.p rfl rfl rfl (P.subL Tryz.underlying9 rfl rfl (by omega) (by omega)) ?_
          refine WL.callx (ent_of Tryz.func143 rfl rfl) rfl rfl rfl (fun w hs => newReader_any (s.extract 32 s.size) w) (fun br _ => ?_)
          refine WL.p rfl rfl rfl (P.build rfl (fun w => bo_155 Tryz.zeroValue155 (cs := #[_, _]) rfl rfl w)) ?_
          refine WL.box rfl rfl rfl (fun b44 => ?_)
          refine WL.p rfl rfl rfl (P.assign rfl) ?_
          refine WL.nil_ ?_
          refine End.seq ?_
          refine WC.seq ?_
          refine WC.region ?_
          refine WL.p rfl rfl rfl (P.fieldAddr fa_128_2 rfl) ?_
          refine WL.p rfl rfl rfl (P.loadO 3 Tryz.isAgg126 rfl rfl rfl) ?_
          refine WL.p rfl rfl rfl (P.move rfl) ?_
          have hnm : (trimR (s.extract 1 32)).size < 4294967281 := by have h1 := trimR_size (s.extract 1 32); have h2 := extract_size s 1 32; omega
          refine WL.callG (α := Nat) (S := fun _ => True) (v := fun _ => .tuple #[]) (H' := fun s9 => (rdB br (dE K s i).2 :: cB b44 bempty (some ⟨br, 0, none⟩) :: (K i).it s9 (dE K s i).1 :: .blk b7 34 ((dE K s i).1.cells ((K i).va s9 (dE K s i).1) ((K i).vg s9 (dE K s i).1)) :: _)) hF.entg rfl rfl rfl rfl rfl rfl (fun w hs => by rw [Array.append_empty]; exact (hF.read (dE0 i s) (s.extract 32 s.size, 0) rfl rfl (by have := extract_size s 32 s.size; show (s.extract 32 s.size).size < _; omega) br b44 b7 bempty _ _ w hs.swap2).mono (fun en w' h => by obtain ⟨s9, h1, h2⟩ := h; exact ⟨s9, trivial, h1, h2⟩)) (fun s10 _ => ?_)
          refine WL.nil_ ?_
          refine End.seq ?_
          refine WC.seq ?_
          refine WC.region ?_
          refine WL.p rfl rfl rfl (P.loadW 3 Tryz.isAgg34 Tryz.sizeOf34 rfl rfl rfl) ?_
          refine WL.callv (ent_of Tryz.func54 rfl rfl) rfl rfl rfl (fun w hs => by have := encode_any (K i) (hF) (dE K s i).1 ((K i).va s10 (dE K s i).1) ((K i).vg s10 (dE K s i).1) w (hg.st hs) ((hF.keep (dE0 i s) (s.extract 32 s.size, 0)).1.trans hkd.symm) (hF.at_ s10 2 _ _ _ _ _ _ rfl rfl rfl hs rfl) (by have h2 : (dE K s i).1.name = trimR (s.extract 1 32) := (hF.keep (dE0 i s) (s.extract 32 s.size, 0)).2; rw [h2]; exact hnm) hF.letter; exact this) ?_
          refine WL.p rfl rfl rfl (P.move rfl) ?_
          refine WL.p rfl rfl rfl (P.extract rfl rfl) ?_
          refine WL.p rfl rfl rfl (P.extract rfl rfl) ?_
          refine WL.p rfl rfl rfl (P.assign rfl) ?_
          refine WL.p rfl rfl rfl (P.assign rfl) ?_
          refine WL.nil_ ?_
          refine End.seq ?_
          refine WC.seq ?_
          refine WC.region ?_
          refine WL.p rfl rfl rfl (P.move rfl) ?_
          refine WL.p rfl rfl rfl (P.nilCheck rfl) ?_
          refine WL.p rfl rfl rfl (P.fieldAddr fa_155_1 rfl) ?_
          refine WL.p rfl rfl rfl (P.loadO 1 Tryz.isAgg152 rfl rfl rfl) ?_
          refine WL.callv (ent_of Tryz.func144 rfl rfl) rfl rfl rfl (fun w hs => end_st hs (j := 0) rfl) ?_
          refine WL.p rfl rfl rfl (P.cmp rfl rfl rfl) ?_
          refine WL.p rfl rfl rfl (P.move rfl) ?_
          refine WL.split 60 rfl (fun hs60 => ?_) (fun hs60 => ?_)
          ·
            refine WL.p rfl rfl rfl (P.move rfl) ?_
            refine WL.p rfl rfl rfl (P.cmp rfl rfl rfl) ?_
            refine WL.p rfl rfl rfl (P.pickT rfl rfl) ?_
            refine WL.p rfl rfl rfl (P.move rfl) ?_
            refine WL.split 64 rfl (fun hs64 => ?_) (fun hs64 => ?_)
            ·
              refine WL.p rfl rfl rfl (P.move rfl) ?_
              refine WL.p rfl rfl rfl (P.move rfl) ?_
              refine WL.p rfl rfl rfl (P.cmps rfl rfl rfl) ?_
              refine WL.p rfl rfl rfl (P.pickT rfl rfl) ?_
              refine WL.nil_ ?_
              refine End.seq ?_
              refine WC.cond rfl (fun hc68 => ?_) (fun hc68 => ?_)
              ·
                refine WC.seq ?_
                refine WC.region ?_
                refine WL.p rfl rfl rfl (P.loadW 3 Tryz.isAgg34 Tryz.sizeOf34 rfl rfl rfl) ?_
                refine WL.storeW 7 Tryz.sizeOf34 rfl rfl rfl (E.one _ (hF.one _ _).1 (hF.one _ _).2) rfl rfl rfl ?_
                refine WL.p rfl rfl rfl (P.assign rfl) ?_
                refine WL.nil_ ?_
                refine End.seq ?_
                refine WC.ret ?_
                refine End.blkR ?_
                refine End.thenR ?_
                refine End.blkR ?_
                refine End.thenR ?_
                refine End.retCT 7 rfl Tryz.isAgg34 Tryz.sizeOf34 rfl rfl rfl rfl ?_
                have h1 : ((K i).L == letterOf s) = true := bne_f hc32
                exact fun w' hs' => .inl ⟨i, s10, hi, ⟨hlo, hhi⟩, by rw [decI, h1, hs60, hs64, show ((if (K i).valid (dE K s i).1 = true then (K i).record (dE K s i).1 else ⟨#[]⟩).toList == s.toList) = true from hc68]; rfl, rfl, hs'.sel [2] rfl⟩
              ·
                refine WC.skip ?_
                refine End.blkN ?_
                refine End.againD (seen.push i) ?_ ?_ rfl (Env.sub_nil) rfl [5, 6, 7] rfl rfl
                · exact seen_push hseen (by rw [decI, hs60, hs64, show ((if (K i).valid (dE K s i).1 = true then (K i).record (dE K s i).1 else ⟨#[]⟩).toList == s.toList) = false from hc68]; simp)
                · show unseen (seen.push i).toList < unseen seen.toList; rw [Array.toList_push]; exact unseen_lt hi hno5
            ·
              refine WL.off rfl rfl ?_
              refine WL.off rfl rfl ?_
              refine WL.off rfl rfl ?_
              refine WL.p rfl rfl rfl (P.pickF rfl rfl) ?_
              refine WL.nil_ ?_
              refine End.seq ?_
              refine WC.condF rfl ?_
              refine WC.skip ?_
              refine End.blkN ?_
              refine End.againD (seen.push i) ?_ ?_ rfl (Env.sub_nil) rfl [5, 6, 7] rfl rfl
              · exact seen_push hseen (by rw [decI, hs60, hs64]; simp)
              · show unseen (seen.push i).toList < unseen seen.toList; rw [Array.toList_push]; exact unseen_lt hi hno5
          ·
            refine WL.off rfl rfl ?_
            refine WL.off rfl rfl ?_
            refine WL.p rfl rfl rfl (P.pickF rfl rfl) ?_
            refine WL.p rfl rfl rfl (P.move rfl) ?_
            refine WL.off rfl rfl ?_
            refine WL.off rfl rfl ?_
            refine WL.off rfl rfl ?_
            refine WL.p rfl rfl rfl (P.pickF rfl rfl) ?_
            refine WL.nil_ ?_
            refine End.seq ?_
            refine WC.condF rfl ?_
            refine WC.skip ?_
            refine End.blkN ?_
            refine End.againD (seen.push i) ?_ ?_ rfl (Env.sub_nil) rfl [5, 6, 7] rfl rfl
            · exact seen_push hseen (by rw [decI, hs60]; simp)
            · show unseen (seen.push i).toList < unseen seen.toList; rw [Array.toList_push]; exact unseen_lt hi hno5

end Go.Proofs.YtlkkiimmangplaaGreatDoor

/- Days. -/
namespace Go.Proofs.YtlkkiimmangplaaGreatDoor
open Go.RowKit
set_option linter.unusedVariables false
set_option linter.unusedSimpArgs false

/-- A function value that answers like p at numbers. -/
structure PredI (w : World) (g : Nat) (cap : Array Value) (p : Int → Bool) : Prop where
  ent : Ent g
  at_ : ∀ (q : Int) (w' : World), Below w.heap.size w w' → Calls Tryz.prog g (#[.int .i64 q] ++ cap) w' (RetV w' (.bool (p q)))
theorem PredI.at' {w w' : World} {H : List It} {g : Nat} {cap : Array Value} {p : Int → Bool} (h : PredI w g cap p) (q : Int) (hs : St w H w') : Calls Tryz.prog g (#[.int .i64 q] ++ cap) w' (RetV w' (.bool (p q))) := h.at_ q w' hs.below
theorem idx_hitI {l : List Int} {k : Nat} {x : Int} {p : Int → Bool} (hx : l[k]? = some x) (h : p x = true) : l.any p = true := by rw [List.any_eq_true]; exact ⟨x, List.mem_of_getElem? hx, h⟩

set_option maxRecDepth 100000 in
theorem indexFuncI_any (A : Option Addr) (c : Nat) (xs : List Int) (g : Nat) (cap : Array Value) (p : Int → Bool) (w : World) (hr : Sl encI 1 w A xs) (hp : PredI w g cap p) :
    Calls Tryz.prog 329 #[.slice A xs.length c, .func (.func g) #[] cap] w (Ret w (fun i : Int => decide (0 ≤ i) = xs.any p) (fun i => .int .i64 i) (fun _ => [])) := by
  have hl := hr.1
  refine enter Tryz.func329 rfl Tryz.ntmps329 rfl ?_
  refine WC.seq ?_
  refine WC.region ?_
  refine WL.p rfl rfl rfl (P.assign rfl) ?_
  refine WL.nil_ ?_
  refine End.seq ?_
  refine WC.seq ?_
  refine WC.seq ?_
  refine WC.region ?_
  refine WL.p rfl rfl rfl (P.move rfl) ?_
  refine WL.p rfl rfl rfl (P.lenR Tryz.underlying22 rfl) ?_
  refine WL.p rfl rfl rfl (P.move rfl) ?_
  refine WL.nil_ ?_
  refine End.seq ?_
  refine WC.block ?_
  refine WC.loopD (σ := Nat) (fun k => [(8, .int .i64 k)]) (fun k => []) (fun k => k ≤ xs.length ∧ (xs.take k).any p = false) (fun k => xs.length - k) 0 ⟨Nat.zero_le _, rfl⟩ (Env.sub_cons rfl (Env.sub_nil)) [] rfl rfl ?_
  rintro k ⟨hk, ht⟩
  refine WC.seq ?_
  refine WC.region ?_
  refine WL.p rfl rfl rfl (P.cmp rfl rfl rfl) ?_
  refine WL.nil_ ?_
  refine End.seq ?_
  refine WC.seq ?_
  refine WC.cond rfl (fun hc9 => ?_) (fun hc9 => ?_)
  ·
    try simp only [decide_eq_true_eq, decide_eq_false_iff_not, beq_iff_eq, beq_eq_false_iff_ne, bne_iff_ne, bne_eq_false_iff_eq, Bool.not_eq_true', Bool.not_eq_false', ne_eq, Int.not_lt, Int.not_le] at hc9
    obtain ⟨b, off, rfl, hcx⟩ := hr.at_ (by omega)
    obtain ⟨x, hx⟩ := get_of_lt (xs := xs) (k := k) (by omega)
    refine WC.skip ?_
    refine End.seq ?_
    refine WC.seq ?_
    refine WC.block ?_
    refine WC.seq ?_
    refine WC.region ?_
    refine WL.p rfl rfl rfl (P.move rfl) ?_
    refine WL.p rfl rfl rfl (P.assign rfl) ?_
    refine WL.nil_ ?_
    refine End.seq ?_
    refine WC.seq ?_
    refine WC.region ?_
    refine WL.p rfl rfl rfl (P.move rfl) ?_
    refine WL.p rfl rfl rfl (P.move rfl) ?_
    refine WL.p rfl rfl rfl (P.move rfl) ?_
    refine WL.p rfl rfl rfl (P.elemAddr Tryz.underlying22 Tryz.sizeOf3 rfl rfl (by omega) (by omega)) ?_
    refine WL.p rfl rfl rfl (P.loadB Tryz.isAgg3 rfl (hcx k x hx 0 _ rfl)) ?_
    refine WL.callc hp.ent rfl rfl rfl rfl (fun w hs => hp.at' x hs) ?_
    refine WL.nil_ ?_
    refine End.seq ?_
    refine WC.cond rfl (fun hc16 => ?_) (fun hc16 => ?_)
    ·
      try simp only [decide_eq_true_eq, decide_eq_false_iff_not, beq_iff_eq, beq_eq_false_iff_ne, bne_iff_ne, bne_eq_false_iff_eq, Bool.not_eq_true', Bool.not_eq_false', ne_eq, Int.not_lt, Int.not_le] at hc16
      refine WC.seq ?_
      refine WC.region ?_
      refine WL.p rfl rfl rfl (P.move rfl) ?_
      refine WL.p rfl rfl rfl (P.assign rfl) ?_
      refine WL.nil_ ?_
      refine End.seq ?_
      refine WC.ret ?_
      refine End.blkR ?_
      refine End.thenR ?_
      refine End.thenR ?_
      refine End.blkR ?_
      refine End.thenR ?_
      refine End.ret1 rfl rfl ?_
      exact fun w' hs' => ⟨k, by rw [idx_hitI hx hc16]; simp, rfl, hs'⟩
    ·
      try simp only [decide_eq_true_eq, decide_eq_false_iff_not, beq_iff_eq, beq_eq_false_iff_ne, bne_iff_ne, bne_eq_false_iff_eq, Bool.not_eq_true', Bool.not_eq_false', ne_eq, Int.not_lt, Int.not_le] at hc16
      refine WC.skip ?_
      refine End.blkN ?_
      refine End.seq ?_
      refine WC.region ?_
      refine WL.p rfl rfl rfl (P.ari64 rfl rfl rfl (by omega)) ?_
      refine WL.p rfl rfl rfl (P.move rfl) ?_
      refine WL.nil_ ?_
      refine End.againD (k + 1) ?_ ?_ rfl (Env.sub_cons rfl (Env.sub_nil)) rfl [] rfl rfl
      · exact ⟨by omega, by rw [any_false_snoc hx, ht, Bool.false_or]; simpa using hc16⟩
      · omega
  ·
    try simp only [decide_eq_true_eq, decide_eq_false_iff_not, beq_iff_eq, beq_eq_false_iff_ne, bne_iff_ne, bne_eq_false_iff_eq, Bool.not_eq_true', Bool.not_eq_false', ne_eq, Int.not_lt, Int.not_le] at hc9
    refine WC.exit ?_
    refine End.thenX ?_
    refine End.thenX ?_
    refine End.blkX ?_
    refine End.seq ?_
    refine WC.seq ?_
    refine WC.region ?_
    refine WL.p rfl rfl rfl (P.assign rfl) ?_
    refine WL.nil_ ?_
    refine End.seq ?_
    refine WC.ret ?_
    refine End.ret1 rfl rfl ?_
    have e : k = xs.length := by omega
    rw [List.take_of_length_le (by omega)] at ht
    exact fun w' hs' => ⟨-1, by rw [ht]; rfl, rfl, hs'⟩

set_option maxRecDepth 100000 in
theorem containsFuncI_any (A : Option Addr) (c : Nat) (xs : List Int) (g : Nat) (cap : Array Value) (p : Int → Bool) (w : World) (hr : Sl encI 1 w A xs) (hp : PredI w g cap p) :
    Calls Tryz.prog 303 #[.slice A xs.length c, .func (.func g) #[] cap] w (RetV w (.bool (xs.any p))) := by
  refine enter Tryz.func303 rfl Tryz.ntmps303 rfl ?_
  refine WC.seq ?_
  refine WC.region ?_
  refine WL.p rfl rfl rfl (P.assign rfl) ?_
  refine WL.nil_ ?_
  refine End.seq ?_
  refine WC.seq ?_
  refine WC.region ?_
  refine WL.p rfl rfl rfl (P.move rfl) ?_
  refine WL.p rfl rfl rfl (P.move rfl) ?_
  refine WL.callx (ent_of Tryz.func329 rfl rfl) rfl rfl rfl (fun w hs => indexFuncI_any A c xs g cap p w (hr.st hs) ⟨hp.ent, fun q w' hb => hp.at_ q w' (hs.below.trans (hb.mono hs.size))⟩) (fun i hi => ?_)
  refine WL.p rfl rfl rfl (P.cmp rfl rfl rfl) ?_
  refine WL.p rfl rfl rfl (P.assign rfl) ?_
  refine WL.nil_ ?_
  refine End.seq ?_
  refine WC.ret ?_
  refine End.ret1 rfl rfl ?_
  exact fun w' hs' => RetV.of (by rw [← hi]) hs'

theorem itoaB_size (n : Int) (h : -1000000000000000 ≤ n ∧ n ≤ 1000000000000000) : 1 ≤ (itoaB n).size ∧ (itoaB n).size ≤ 21 := by
  refine ⟨?_, Lib.itoa_length_le n (by omega) (by omega)⟩
  show 1 ≤ (Lib.itoa n).length
  unfold Lib.itoa
  split
  · simp
  · rw [Lib.decDigits]
    split <;> simp
def twoD (n : Int) : ByteArray := (itoaB (n + 100)).extract 1 (itoaB (n + 100)).size
theorem twoD_size (n : Int) (h : 0 ≤ n ∧ n ≤ 100000) : (twoD n).size ≤ 21 := by
  have := itoaB_size (n + 100) (by omega)
  have h2 := extract_size (itoaB (n + 100)) 1 (itoaB (n + 100)).size
  show ((itoaB (n + 100)).extract 1 (itoaB (n + 100)).size).size ≤ 21
  omega
def dash : ByteArray := ⟨#[45]⟩
def fmtP (day : Int) : ByteArray := if dayB day = true then itoaB (yearD day) ++ dash ++ twoD (mdD day).1 ++ dash ++ twoD (mdD day).2 else ⟨#[]⟩
theorem dash_size : dash.size = 1 := rfl
theorem day_lim {day : Int} (hd : dayB day = true) : (0 ≤ yearD day ∧ yearD day ≤ 2200) ∧ (0 ≤ (mdD day).1 ∧ (mdD day).1 ≤ 12) ∧ 0 ≤ (mdD day).2 ∧ (mdD day).2 ≤ 70000 := by
  have hl := dayB_lim hd
  obtain ⟨h1, h2, h3⟩ := yearP_is hd
  have h4 := firstP_big h1 (by omega)
  have h5 : 0 ≤ firstP (yearP day) := by unfold firstP; omega
  have h6 := mdP_pos (lensP (yearP day)) 0 (day - firstP (yearP day)) (fun n hn => by have := lens_mem hn; omega) (by omega) (by omega)
  have h7 : (lensP (yearP day)).length = 12 := rfl
  have e : mdD day = mdP (lensP (yearP day)) 0 (day - firstP (yearP day)) := rfl
  rw [← e, h7] at h6
  refine ⟨?_, by omega, by omega⟩
  unfold yearD
  split <;> omega
theorem fmtP_nil (day : Int) : ((fmtP day).toList == (⟨#[]⟩ : ByteArray).toList) = !dayB day := by
  rw [toList_beq]
  cases hd : dayB day with
  | false =>
    rw [fmtP, if_neg (by rw [hd]; simp)]
    rfl
  | true =>
    refine decide_eq_false fun e => ?_
    have hl := day_lim hd
    have h1 := (itoaB_size (yearD day) (by omega)).1
    have h2 := congrArg ByteArray.size e
    rw [fmtP, if_pos hd] at h2
    simp only [size_append] at h2
    have h3 : (⟨#[]⟩ : ByteArray).size = 0 := rfl
    omega

set_option maxRecDepth 100000 in
theorem two_any (n : Int) (w : World) (hg : Good w) (hn : 0 ≤ n ∧ n ≤ 100000) :
    Calls Tryz.prog 222 #[.int .i64 n] w (RetV w (.string (twoD n))) := by
  have hz := itoaB_size (n + 100) (by omega)
  refine enter Tryz.func222 rfl Tryz.ntmps222 rfl ?_
  refine WC.seq ?_
  refine WC.region ?_
  refine WL.p rfl rfl rfl (P.assign rfl) ?_
  refine WL.nil_ ?_
  refine End.seq ?_
  refine WC.seq ?_
  refine WC.region ?_
  refine WL.p rfl rfl rfl (P.move rfl) ?_
  refine WL.p rfl rfl rfl (P.ari64 rfl rfl rfl (by omega)) ?_
  refine WL.callv (ent_of Tryz.func130 rfl rfl) rfl rfl rfl (fun w hs => itoa_any (n + 100) w (hg.st hs) (by omega)) ?_
  refine WL.p rfl rfl rfl (P.subL Tryz.underlying9 rfl rfl (by omega) (by omega)) ?_
  refine WL.p rfl rfl rfl (P.assign rfl) ?_
  refine WL.nil_ ?_
  refine End.seq ?_
  refine WC.ret ?_
  refine End.ret1 rfl rfl ?_
  exact fun w' hs' => RetV.of rfl hs'

set_option maxRecDepth 100000 in
theorem format_any (day : Int) (w : World) (hg : Good w) :
    Calls Tryz.prog 132 #[.int .i64 day] w (RetV w (.string (fmtP day))) := by
  refine enter Tryz.func132 rfl Tryz.ntmps132 rfl ?_
  refine WC.seq ?_
  refine WC.region ?_
  refine WL.p rfl rfl rfl (P.assign rfl) ?_
  refine WL.nil_ ?_
  refine End.seq ?_
  refine WC.seq ?_
  refine WC.seq ?_
  refine WC.region ?_
  refine WL.p rfl rfl rfl (P.move rfl) ?_
  refine WL.callv (ent_of Tryz.func220 rfl rfl) rfl rfl rfl (fun w hs => isDay_any day w) ?_
  refine WL.p rfl rfl rfl (P.not_ rfl) ?_
  refine WL.nil_ ?_
  refine End.seq ?_
  refine WC.cond rfl (fun hc9 => ?_) (fun hc9 => ?_)
  ·
    refine WC.seq ?_
    refine WC.region ?_
    refine WL.p rfl rfl rfl (P.assign rfl) ?_
    refine WL.nil_ ?_
    refine End.seq ?_
    refine WC.ret ?_
    refine End.thenR ?_
    refine End.ret1 rfl rfl ?_
    exact fun w' hs' => RetV.of (by rw [fmtP, if_neg (by simpa using hc9)]) hs'
  ·
    have hd : dayB day = true := by simpa using hc9
    have hlim := day_lim hd
    have hz1 := itoaB_size (yearD day) (by omega)
    have hz2 := twoD_size (mdD day).1 (by omega)
    have hz3 := twoD_size (mdD day).2 (by omega)
    have hz4 := dash_size
    refine WC.skip ?_
    refine End.seq ?_
    refine WC.seq ?_
    refine WC.region ?_
    refine WL.p rfl rfl rfl (P.move rfl) ?_
    refine WL.callv (ent_of Tryz.func221 rfl rfl) rfl rfl rfl (fun w hs => date_any day w hd) ?_
    refine WL.p rfl rfl rfl (P.move rfl) ?_
    refine WL.p rfl rfl rfl (P.extract rfl rfl) ?_
    refine WL.p rfl rfl rfl (P.extract rfl rfl) ?_
    refine WL.p rfl rfl rfl (P.extract rfl rfl) ?_
    refine WL.p rfl rfl rfl (P.assign rfl) ?_
    refine WL.p rfl rfl rfl (P.assign rfl) ?_
    refine WL.p rfl rfl rfl (P.assign rfl) ?_
    refine WL.nil_ ?_
    refine End.seq ?_
    refine WC.seq ?_
    refine WC.region ?_
    refine WL.p rfl rfl rfl (P.assign rfl) ?_
    refine WL.nil_ ?_
    refine End.seq ?_
    refine WC.seq ?_
    refine WC.region ?_
    refine WL.p rfl rfl rfl (P.move rfl) ?_
    refine WL.callv (ent_of Tryz.func130 rfl rfl) rfl rfl rfl (fun w hs => itoa_any _ w (hg.st hs) (by omega)) ?_
    refine WL.p rfl rfl rfl (P.cat rfl rfl (by show _ + dash.size ≤ _; omega)) ?_
    refine WL.p rfl rfl rfl (P.move rfl) ?_
    refine WL.p rfl rfl rfl (P.move rfl) ?_
    refine WL.callc (ent_of Tryz.func222 rfl rfl) rfl rfl rfl rfl (fun w hs => by rw [Array.append_empty]; exact two_any (mdD day).1 w (hg.st hs) (by omega)) ?_
    refine WL.p rfl rfl rfl (P.cat rfl rfl (by rw [size_append]; show _ + dash.size + _ ≤ _; omega)) ?_
    refine WL.p rfl rfl rfl (P.cat rfl rfl (by rw [size_append, size_append]; show _ + dash.size + _ + dash.size ≤ _; omega)) ?_
    refine WL.p rfl rfl rfl (P.move rfl) ?_
    refine WL.p rfl rfl rfl (P.move rfl) ?_
    refine WL.callc (ent_of Tryz.func222 rfl rfl) rfl rfl rfl rfl (fun w hs => by rw [Array.append_empty]; exact two_any (mdD day).2 w (hg.st hs) (by omega)) ?_
    refine WL.p rfl rfl rfl (P.cat rfl rfl (by rw [size_append, size_append, size_append]; show _ + dash.size + _ + dash.size + _ ≤ _; omega)) ?_
    refine WL.p rfl rfl rfl (P.assign rfl) ?_
    refine WL.nil_ ?_
    refine End.seq ?_
    refine WC.ret ?_
    refine End.ret1 rfl rfl ?_
    exact fun w' hs' => RetV.of (by rw [fmtP, if_pos hd]; rfl) hs'

set_option maxRecDepth 100000 in
theorem day1_any (n : Int) (w : World) (hg : Good w) :
    Calls Tryz.prog 304 #[.int .i64 n] w (RetV w (.bool (!dayB n))) := by
  refine enter Tryz.func304 rfl Tryz.ntmps304 rfl ?_
  refine WC.seq ?_
  refine WC.region ?_
  refine WL.p rfl rfl rfl (P.assign rfl) ?_
  refine WL.nil_ ?_
  refine End.seq ?_
  refine WC.seq ?_
  refine WC.region ?_
  refine WL.p rfl rfl rfl (P.move rfl) ?_
  refine WL.callv (ent_of Tryz.func132 rfl rfl) rfl rfl rfl (fun w hs => format_any n w (hg.st hs)) ?_
  refine WL.p rfl rfl rfl (P.cmps rfl rfl rfl) ?_
  refine WL.p rfl rfl rfl (P.assign rfl) ?_
  refine WL.nil_ ?_
  refine End.seq ?_
  refine WC.ret ?_
  refine End.ret1 rfl rfl ?_
  exact fun w' hs' => RetV.of (congrArg Value.bool (fmtP_nil n)) hs'

set_option maxRecDepth 100000 in
theorem day_any (A : Option Addr) (c : Nat) (xs : List Int) (w : World) (hg : Good w) (hr : Sl encI 1 w A xs) :
    Calls Tryz.prog 264 #[.slice A xs.length c] w (RetV w (.bool (xs.all dayB))) := by
  refine enter Tryz.func264 rfl Tryz.ntmps264 rfl ?_
  refine WC.seq ?_
  refine WC.region ?_
  refine WL.p rfl rfl rfl (P.assign rfl) ?_
  refine WL.nil_ ?_
  refine End.seq ?_
  refine WC.seq ?_
  refine WC.region ?_
  refine WL.p rfl rfl rfl (P.move rfl) ?_
  refine WL.callv (ent_of Tryz.func303 rfl rfl) rfl rfl rfl (fun w hs => containsFuncI_any A c xs 304 #[] (fun n => !dayB n) w (hr.st hs) ⟨ent_of Tryz.func304 rfl rfl, fun q w' hb => by rw [Array.append_empty]; exact day1_any q w' ((hg.st hs).below hb)⟩) ?_
  refine WL.p rfl rfl rfl (P.not_ rfl) ?_
  refine WL.p rfl rfl rfl (P.assign rfl) ?_
  refine WL.nil_ ?_
  refine End.seq ?_
  refine WC.ret ?_
  refine End.ret1 rfl rfl ?_
  exact fun w' hs' => RetV.of (by rw [List.all_eq_not_any_not]) hs'

end Go.Proofs.YtlkkiimmangplaaGreatDoor

/- The fields of data sets in their ranges. -/
namespace Go.Proofs.YtlkkiimmangplaaGreatDoor
open Go.RowKit
set_option linter.unusedVariables false
set_option linter.unusedSimpArgs false

def altE (l : List Int) (i : Nat) : Bool := !(decide (l.getD i 0 < 1)) && (!(decide (1099511627776 < l.getD i 0)) && !(decide (0 < (i : Int)) && decide (l.getD i 0 ≤ l.getD (i - 1) 0)))
def altOK (l : List Int) : Bool := (List.range l.length).all (altE l)
def dataOK (e : E) : Bool := altOK e.alt && (inB 0 1099511627776 [e.ds.length, e.ds.block, e.ds.keyAt, e.ds.keyLength, e.ds.interval, e.ds.area, e.ds.freeInterval, e.ds.freeArea, e.ds.base, e.ds.altAt, e.ds.altLength] && (inB 1 1099511627776 [e.ds.id] && (inB 0 3 [e.ds.org] && (inB 0 2 [e.ds.format] && (inB 0 3 [e.ds.cls] && ((e.ds.volume.toList == (⟨#[]⟩ : ByteArray).toList || wordB e.ds.volume) && ((e.ds.owner.toList == (⟨#[]⟩ : ByteArray).toList || wordB e.ds.owner) && ([e.ds.created, e.ds.expires, e.used].all dayB && decide ((e.alt.length : Int) ≤ 4)))))))))
theorem range_snoc (p : Nat → Bool) (k : Nat) : (List.range (k + 1)).all p = ((List.range k).all p && p k) := by rw [List.range_succ]; simp
theorem dataOK_no {e : E} {k : Nat} (hk : k < e.alt.length) (h : altE e.alt k = false) : dataOK e = false := by
  have h1 : altOK e.alt = false := by
    unfold altOK
    rw [Bool.eq_false_iff]
    intro he
    rw [List.all_eq_true] at he
    rw [he k (List.mem_range.2 hk)] at h
    cases h
  rw [dataOK, h1]; rfl
theorem getD_ofI {l : List Int} {k : Nat} {x : Int} (h : l[k]? = some x) : l.getD k 0 = x := by rw [List.getD, h]; rfl

set_option maxHeartbeats 1000000 in
set_option maxRecDepth 100000 in
theorem dataOK_any (e : E) (va vg : Value) (w : World) (hg : Good w) (ha : EntAt w e va vg) :
    Calls Tryz.prog 195 #[.agg (e.cells va vg)] w (RetV w (.bool (dataOK e))) := by
  obtain ⟨⟨A1, c1, rfl, hc1, hr1⟩, ⟨A2, c2, rfl, hc2, hr2⟩⟩ := ha
  refine enter Tryz.func195 rfl Tryz.ntmps195 rfl ?_
  refine WC.seq ?_
  refine WC.region ?_
  refine WL.box rfl rfl rfl (fun b1 => ?_)
  refine WL.p rfl rfl rfl (P.assign rfl) ?_
  refine WL.nil_ ?_
  refine End.seq ?_
  refine WC.seq ?_
  refine WC.region ?_
  refine WL.p rfl rfl rfl (P.fieldAddr fa_34_2 rfl) ?_
  refine WL.p rfl rfl rfl (P.loadA 0 (vs := e.ds.cells) Tryz.isAgg31 Tryz.sizeOf31 rfl rfl rfl (E.ds_get e _ _)) ?_
  refine WL.alloc Tryz.zeroValue31 rfl rfl (fun b3 => ?_)
  refine WL.storeW 0 Tryz.sizeOf31 rfl rfl rfl rfl rfl rfl rfl ?_
  refine WL.nil_ ?_
  refine End.seq ?_
  refine WC.seq ?_
  refine WC.seq ?_
  refine WC.region ?_
  refine WL.p rfl rfl rfl (P.fieldAddr fa_34_3 rfl) ?_
  refine WL.p rfl rfl rfl (P.loadO 1 Tryz.isAgg22 rfl rfl rfl) ?_
  refine WL.p rfl rfl rfl (P.lenR Tryz.underlying22 rfl) ?_
  refine WL.p rfl rfl rfl (P.move rfl) ?_
  refine WL.nil_ ?_
  refine End.seq ?_
  refine WC.block ?_
  refine WC.loopD (σ := Nat) (fun k => [(11, .int .i64 (k : Nat))]) (fun k => _) (fun k => k ≤ e.alt.length ∧ (List.range k).all (altE e.alt) = true) (fun k => e.alt.length - k) 0 ⟨Nat.zero_le _, rfl⟩ (Env.sub_cons rfl (Env.sub_nil)) [0, 1] rfl rfl ?_
  rintro k ⟨hk, hok⟩
  refine WC.seq ?_
  refine WC.region ?_
  refine WL.p rfl rfl rfl (P.cmp rfl rfl rfl) ?_
  refine WL.nil_ ?_
  refine End.seq ?_
  refine WC.seq ?_
  refine WC.cond rfl (fun hc12 => ?_) (fun hc12 => ?_)
  ·
    have hkl : k < e.alt.length := by have := of_decide_eq_true hc12; omega
    have hl1 := hr1.1
    obtain ⟨b, off, rfl, hcx⟩ := hr1.at_ (by omega)
    obtain ⟨n, hx⟩ := get_of_lt (xs := e.alt) (k := k) hkl
    have hgn := getD_ofI hx
    refine WC.skip ?_
    refine End.seq ?_
    refine WC.seq ?_
    refine WC.block ?_
    refine WC.seq ?_
    refine WC.region ?_
    refine WL.p rfl rfl rfl (P.move rfl) ?_
    refine WL.p rfl rfl rfl (P.elemAddr Tryz.underlying22 Tryz.sizeOf3 rfl rfl (by omega) (by omega)) ?_
    refine WL.p rfl rfl rfl (P.loadB Tryz.isAgg3 rfl (hcx k n hx 0 _ rfl)) ?_
    refine WL.p rfl rfl rfl (P.assign rfl) ?_
    refine WL.p rfl rfl rfl (P.assign rfl) ?_
    refine WL.nil_ ?_
    refine End.seq ?_
    refine WC.seq ?_
    refine WC.region ?_
    refine WL.p rfl rfl rfl (P.move rfl) ?_
    refine WL.p rfl rfl rfl (P.cmp rfl rfl rfl) ?_
    refine WL.p rfl rfl rfl (P.move rfl) ?_
    refine WL.split 18 rfl (fun hs18 => ?_) (fun hs18 => ?_)
    ·
      refine WL.off rfl rfl ?_
      refine WL.off rfl rfl ?_
      refine WL.p rfl rfl rfl (P.pickT rfl rfl) ?_
      refine WL.p rfl rfl rfl (P.move rfl) ?_
      refine WL.off rfl rfl ?_
      refine WL.off rfl rfl ?_
      refine WL.off rfl rfl ?_
      refine WL.offU rfl rfl ?_
      refine WL.offU rfl rfl ?_
      refine WL.offU rfl rfl ?_
      refine WL.offU rfl rfl ?_
      refine WL.offU rfl rfl ?_
      refine WL.offU rfl rfl ?_
      refine WL.offU rfl rfl ?_
      refine WL.offU rfl rfl ?_
      refine WL.off rfl rfl ?_
      refine WL.p rfl rfl rfl (P.pickT rfl rfl) ?_
      refine WL.nil_ ?_
      refine End.seq ?_
      refine WC.condT rfl ?_
      refine WC.seq ?_
      refine WC.region ?_
      refine WL.p rfl rfl rfl (P.assign rfl) ?_
      refine WL.nil_ ?_
      refine End.seq ?_
      refine WC.ret ?_
      refine End.blkR ?_
      refine End.thenR ?_
      refine End.thenR ?_
      refine End.blkR ?_
      refine End.thenR ?_
      refine End.ret1 rfl rfl ?_
      exact fun w' hs' => RetV.of (by rw [dataOK_no hkl (by rw [altE, hgn, hs18]; rfl)]) hs'
    ·
      refine WL.p rfl rfl rfl (P.move rfl) ?_
      refine WL.p rfl rfl rfl (P.cmp rfl rfl rfl) ?_
      refine WL.p rfl rfl rfl (P.pickF rfl rfl) ?_
      refine WL.p rfl rfl rfl (P.move rfl) ?_
      refine WL.split 22 rfl (fun hs22 => ?_) (fun hs22 => ?_)
      ·
        refine WL.off rfl rfl ?_
        refine WL.off rfl rfl ?_
        refine WL.off rfl rfl ?_
        refine WL.offU rfl rfl ?_
        refine WL.offU rfl rfl ?_
        refine WL.offU rfl rfl ?_
        refine WL.offU rfl rfl ?_
        refine WL.offU rfl rfl ?_
        refine WL.offU rfl rfl ?_
        refine WL.offU rfl rfl ?_
        refine WL.offU rfl rfl ?_
        refine WL.off rfl rfl ?_
        refine WL.p rfl rfl rfl (P.pickT rfl rfl) ?_
        refine WL.nil_ ?_
        refine End.seq ?_
        refine WC.condT rfl ?_
        refine WC.seq ?_
        refine WC.region ?_
        refine WL.p rfl rfl rfl (P.assign rfl) ?_
        refine WL.nil_ ?_
        refine End.seq ?_
        refine WC.ret ?_
        refine End.blkR ?_
        refine End.thenR ?_
        refine End.thenR ?_
        refine End.blkR ?_
        refine End.thenR ?_
        refine End.ret1 rfl rfl ?_
        exact fun w' hs' => RetV.of (by rw [dataOK_no hkl (by rw [altE, hgn, hs18, hs22]; rfl)]) hs'
      ·
        refine WL.p rfl rfl rfl (P.move rfl) ?_
        refine WL.p rfl rfl rfl (P.cmp rfl rfl rfl) ?_
        refine WL.p rfl rfl rfl (P.move rfl) ?_
        refine WL.split 25 rfl (fun hs25 => ?_) (fun hs25 => ?_)
        ·
          have hk0 := of_decide_eq_true hs25
          obtain ⟨m, hm⟩ := get_of_lt (xs := e.alt) (k := k - 1) (by omega)
          have hgm := getD_ofI hm
          refine WL.p rfl rfl rfl (P.move rfl) ?_
          refine WL.p rfl rfl rfl (P.fieldAddr fa_34_3 rfl) ?_
          refine WL.p rfl rfl rfl (P.loadO 1 Tryz.isAgg22 rfl rfl rfl) ?_
          refine WL.p rfl rfl rfl (P.move rfl) ?_
          refine WL.p rfl rfl rfl (P.ari64 rfl rfl rfl (by omega)) ?_
          refine WL.p rfl rfl rfl (P.elemAddr Tryz.underlying22 Tryz.sizeOf3 rfl rfl (by omega) (by omega)) ?_
          refine WL.p rfl rfl rfl (P.loadB Tryz.isAgg3 rfl (by have h9 := hcx (k - 1) m hm 0 _ rfl; rw [Int.toNat_natCast] at h9; rw [show (((k : Nat) : Int) - 1).toNat = k - 1 by omega]; exact h9)) ?_
          refine WL.p rfl rfl rfl (P.cmp rfl rfl rfl) ?_
          refine WL.p rfl rfl rfl (P.pickT rfl rfl) ?_
          refine WL.p rfl rfl rfl (P.pickF rfl rfl) ?_
          refine WL.nil_ ?_
          refine End.seq ?_
          refine WC.cond rfl (fun hc35 => ?_) (fun hc35 => ?_)
          ·
            refine WC.seq ?_
            refine WC.region ?_
            refine WL.p rfl rfl rfl (P.assign rfl) ?_
            refine WL.nil_ ?_
            refine End.seq ?_
            refine WC.ret ?_
            refine End.blkR ?_
            refine End.thenR ?_
            refine End.thenR ?_
            refine End.blkR ?_
            refine End.thenR ?_
            refine End.ret1 rfl rfl ?_
            exact fun w' hs' => RetV.of (by rw [dataOK_no hkl (by rw [altE, hgn, hgm, hs18, hs22, hs25, hc35]; rfl)]) hs'
          ·
            refine WC.skip ?_
            refine End.blkN ?_
            refine End.seq ?_
            refine WC.region ?_
            refine WL.p rfl rfl rfl (P.ari64 rfl rfl rfl (by omega)) ?_
            refine WL.p rfl rfl rfl (P.move rfl) ?_
            refine WL.nil_ ?_
            refine End.againD (k + 1) ?_ ?_ rfl (Env.sub_cons rfl (Env.sub_nil)) rfl [0, 1] rfl rfl
            · exact ⟨by omega, by rw [range_snoc, hok, altE, hgn, hgm, hs18, hs22, hs25, hc35]; rfl⟩
            · show e.alt.length - (k + 1) < e.alt.length - k; omega
        ·
          refine WL.off rfl rfl ?_
          refine WL.off rfl rfl ?_
          refine WL.off rfl rfl ?_
          refine WL.off rfl rfl ?_
          refine WL.off rfl rfl ?_
          refine WL.off rfl rfl ?_
          refine WL.off rfl rfl ?_
          refine WL.off rfl rfl ?_
          refine WL.p rfl rfl rfl (P.pickF rfl rfl) ?_
          refine WL.p rfl rfl rfl (P.pickF rfl rfl) ?_
          refine WL.nil_ ?_
          refine End.seq ?_
          refine WC.condF rfl ?_
          refine WC.skip ?_
          refine End.blkN ?_
          refine End.seq ?_
          refine WC.region ?_
          refine WL.p rfl rfl rfl (P.ari64 rfl rfl rfl (by omega)) ?_
          refine WL.p rfl rfl rfl (P.move rfl) ?_
          refine WL.nil_ ?_
          refine End.againD (k + 1) ?_ ?_ rfl (Env.sub_cons rfl (Env.sub_nil)) rfl [0, 1] rfl rfl
          · exact ⟨by omega, by rw [range_snoc, hok, altE, hgn, hs18, hs22, hs25]; rfl⟩
          · show e.alt.length - (k + 1) < e.alt.length - k; omega
  ·
    have ek : k = e.alt.length := by have := of_decide_eq_false hc12; omega
    have hokF : altOK e.alt = true := by rw [altOK, ← ek]; exact hok
    refine WC.exit ?_
    refine End.thenX ?_
    refine End.thenX ?_
    refine End.blkX ?_
    refine End.seq ?_
    refine WC.seq ?_
    refine WC.region ?_
    refine WL.p rfl rfl rfl (P.fieldAddr fa_31_3 rfl) ?_
    refine WL.p rfl rfl rfl (P.loadO 0 Tryz.isAgg3 rfl rfl rfl) ?_
    refine WL.p rfl rfl rfl (P.fieldAddr fa_31_4 rfl) ?_
    refine WL.p rfl rfl rfl (P.loadO 0 Tryz.isAgg3 rfl rfl rfl) ?_
    refine WL.p rfl rfl rfl (P.fieldAddr fa_31_5 rfl) ?_
    refine WL.p rfl rfl rfl (P.loadO 0 Tryz.isAgg3 rfl rfl rfl) ?_
    refine WL.p rfl rfl rfl (P.fieldAddr fa_31_6 rfl) ?_
    refine WL.p rfl rfl rfl (P.loadO 0 Tryz.isAgg3 rfl rfl rfl) ?_
    refine WL.p rfl rfl rfl (P.fieldAddr fa_31_7 rfl) ?_
    refine WL.p rfl rfl rfl (P.loadO 0 Tryz.isAgg3 rfl rfl rfl) ?_
    refine WL.p rfl rfl rfl (P.fieldAddr fa_31_8 rfl) ?_
    refine WL.p rfl rfl rfl (P.loadO 0 Tryz.isAgg3 rfl rfl rfl) ?_
    refine WL.p rfl rfl rfl (P.fieldAddr fa_31_9 rfl) ?_
    refine WL.p rfl rfl rfl (P.loadO 0 Tryz.isAgg3 rfl rfl rfl) ?_
    refine WL.p rfl rfl rfl (P.fieldAddr fa_31_10 rfl) ?_
    refine WL.p rfl rfl rfl (P.loadO 0 Tryz.isAgg3 rfl rfl rfl) ?_
    refine WL.p rfl rfl rfl (P.fieldAddr fa_31_11 rfl) ?_
    refine WL.p rfl rfl rfl (P.loadO 0 Tryz.isAgg3 rfl rfl rfl) ?_
    refine WL.p rfl rfl rfl (P.fieldAddr fa_31_12 rfl) ?_
    refine WL.p rfl rfl rfl (P.loadO 0 Tryz.isAgg3 rfl rfl rfl) ?_
    refine WL.p rfl rfl rfl (P.fieldAddr fa_31_13 rfl) ?_
    refine WL.p rfl rfl rfl (P.loadO 0 Tryz.isAgg3 rfl rfl rfl) ?_
    refine WL.row Tryz.underlying22 Tryz.sizeOf3 Tryz.zeroValue3 rfl rfl rfl rfl rfl rfl rfl rfl rfl (fun b59 => ?_)
    refine WL.callv (ent_of Tryz.func201 rfl rfl) rfl rfl rfl (fun w hs => within_any 0 1099511627776 _ _ [e.ds.length, e.ds.block, e.ds.keyAt, e.ds.keyLength, e.ds.interval, e.ds.area, e.ds.freeInterval, e.ds.freeArea, e.ds.base, e.ds.altAt, e.ds.altLength] w (slI_row hs (j := 0) rfl rfl (by simp))) ?_
    refine WL.p rfl rfl rfl (P.move rfl) ?_
    refine WL.split 61 rfl (fun hs61 => ?_) (fun hs61 => ?_)
    ·
      refine WL.p rfl rfl rfl (P.fieldAddr fa_31_0 rfl) ?_
      refine WL.p rfl rfl rfl (P.loadO 1 Tryz.isAgg3 rfl rfl rfl) ?_
      refine WL.row Tryz.underlying22 Tryz.sizeOf3 Tryz.zeroValue3 rfl rfl rfl rfl rfl rfl rfl rfl rfl (fun b64 => ?_)
      refine WL.callv (ent_of Tryz.func201 rfl rfl) rfl rfl rfl (fun w hs => within_any 1 1099511627776 _ _ [e.ds.id] w (slI_row hs (j := 0) rfl rfl (by simp))) ?_
      refine WL.p rfl rfl rfl (P.pickT rfl rfl) ?_
      refine WL.p rfl rfl rfl (P.move rfl) ?_
      refine WL.split 67 rfl (fun hs67 => ?_) (fun hs67 => ?_)
      ·
        refine WL.p rfl rfl rfl (P.fieldAddr fa_31_1 rfl) ?_
        refine WL.p rfl rfl rfl (P.loadO 2 Tryz.isAgg3 rfl rfl rfl) ?_
        refine WL.row Tryz.underlying22 Tryz.sizeOf3 Tryz.zeroValue3 rfl rfl rfl rfl rfl rfl rfl rfl rfl (fun b70 => ?_)
        refine WL.callv (ent_of Tryz.func201 rfl rfl) rfl rfl rfl (fun w hs => within_any 0 3 _ _ [e.ds.org] w (slI_row hs (j := 0) rfl rfl (by simp))) ?_
        refine WL.p rfl rfl rfl (P.pickT rfl rfl) ?_
        refine WL.p rfl rfl rfl (P.move rfl) ?_
        refine WL.split 73 rfl (fun hs73 => ?_) (fun hs73 => ?_)
        ·
          refine WL.p rfl rfl rfl (P.fieldAddr fa_31_2 rfl) ?_
          refine WL.p rfl rfl rfl (P.loadO 3 Tryz.isAgg3 rfl rfl rfl) ?_
          refine WL.row Tryz.underlying22 Tryz.sizeOf3 Tryz.zeroValue3 rfl rfl rfl rfl rfl rfl rfl rfl rfl (fun b76 => ?_)
          refine WL.callv (ent_of Tryz.func201 rfl rfl) rfl rfl rfl (fun w hs => within_any 0 2 _ _ [e.ds.format] w (slI_row hs (j := 0) rfl rfl (by simp))) ?_
          refine WL.p rfl rfl rfl (P.pickT rfl rfl) ?_
          refine WL.p rfl rfl rfl (P.move rfl) ?_
          refine WL.split 79 rfl (fun hs79 => ?_) (fun hs79 => ?_)
          ·
            refine WL.p rfl rfl rfl (P.fieldAddr fa_31_15 rfl) ?_
            refine WL.p rfl rfl rfl (P.loadO 4 Tryz.isAgg3 rfl rfl rfl) ?_
            refine WL.row Tryz.underlying22 Tryz.sizeOf3 Tryz.zeroValue3 rfl rfl rfl rfl rfl rfl rfl rfl rfl (fun b82 => ?_)
            refine WL.callv (ent_of Tryz.func201 rfl rfl) rfl rfl rfl (fun w hs => within_any 0 3 _ _ [e.ds.cls] w (slI_row hs (j := 0) rfl rfl (by simp))) ?_
            refine WL.p rfl rfl rfl (P.pickT rfl rfl) ?_
            refine WL.p rfl rfl rfl (P.move rfl) ?_
            refine WL.split 85 rfl (fun hs85 => ?_) (fun hs85 => ?_)
            ·
              refine WL.p rfl rfl rfl (P.fieldAddr fa_31_16 rfl) ?_
              refine WL.p rfl rfl rfl (P.loadO 5 Tryz.isAgg9 rfl rfl rfl) ?_
              refine WL.p rfl rfl rfl (P.cmps rfl rfl rfl) ?_
              refine WL.p rfl rfl rfl (P.move rfl) ?_
              refine WL.split 89 rfl (fun hs89 => ?_) (fun hs89 => ?_)
              ·
                refine WL.off rfl rfl ?_
                refine WL.off rfl rfl ?_
                refine WL.off rfl rfl ?_
                refine WL.p rfl rfl rfl (P.pickT rfl rfl) ?_
                refine WL.p rfl rfl rfl (P.pickT rfl rfl) ?_
                refine WL.p rfl rfl rfl (P.move rfl) ?_
                refine WL.p rfl rfl rfl (P.fieldAddr fa_31_17 rfl) ?_
                refine WL.p rfl rfl rfl (P.loadO 5 Tryz.isAgg9 rfl rfl rfl) ?_
                refine WL.p rfl rfl rfl (P.cmps rfl rfl rfl) ?_
                refine WL.p rfl rfl rfl (P.move rfl) ?_
                refine WL.split 99 rfl (fun hs99 => ?_) (fun hs99 => ?_)
                ·
                  refine WL.off rfl rfl ?_
                  refine WL.off rfl rfl ?_
                  refine WL.off rfl rfl ?_
                  refine WL.p rfl rfl rfl (P.pickT rfl rfl) ?_
                  refine WL.p rfl rfl rfl (P.pickT rfl rfl) ?_
                  refine WL.p rfl rfl rfl (P.move rfl) ?_
                  refine WL.p rfl rfl rfl (P.fieldAddr fa_31_18 rfl) ?_
                  refine WL.p rfl rfl rfl (P.loadO 5 Tryz.isAgg3 rfl rfl rfl) ?_
                  refine WL.p rfl rfl rfl (P.fieldAddr fa_31_19 rfl) ?_
                  refine WL.p rfl rfl rfl (P.loadO 5 Tryz.isAgg3 rfl rfl rfl) ?_
                  refine WL.p rfl rfl rfl (P.fieldAddr fa_34_4 rfl) ?_
                  refine WL.p rfl rfl rfl (P.loadO 6 Tryz.isAgg3 rfl rfl rfl) ?_
                  refine WL.row Tryz.underlying22 Tryz.sizeOf3 Tryz.zeroValue3 rfl rfl rfl rfl rfl rfl rfl rfl rfl (fun b112 => ?_)
                  refine WL.callv (ent_of Tryz.func264 rfl rfl) rfl rfl rfl (fun w hs => day_any _ _ [e.ds.created, e.ds.expires, e.used] w (hg.st hs) (slI_row hs (j := 0) rfl rfl (by simp))) ?_
                  refine WL.p rfl rfl rfl (P.pickT rfl rfl) ?_
                  refine WL.p rfl rfl rfl (P.move rfl) ?_
                  refine WL.split 115 rfl (fun hs115 => ?_) (fun hs115 => ?_)
                  ·
                    refine WL.p rfl rfl rfl (P.fieldAddr fa_34_3 rfl) ?_
                    refine WL.p rfl rfl rfl (P.loadO 7 Tryz.isAgg22 rfl rfl rfl) ?_
                    refine WL.p rfl rfl rfl (P.lenR Tryz.underlying22 rfl) ?_
                    refine WL.p rfl rfl rfl (P.cmp rfl rfl rfl) ?_
                    refine WL.p rfl rfl rfl (P.pickT rfl rfl) ?_
                    refine WL.p rfl rfl rfl (P.assign rfl) ?_
                    refine WL.nil_ ?_
                    refine End.seq ?_
                    refine WC.ret ?_
                    refine End.ret1 rfl rfl ?_
                    exact fun w' hs' => RetV.of (by rw [dataOK, hokF]; simp only [*, Bool.true_and, Bool.false_and, Bool.true_or, Bool.false_or]) hs'
                  ·
                    refine WL.off rfl rfl ?_
                    refine WL.off rfl rfl ?_
                    refine WL.off rfl rfl ?_
                    refine WL.off rfl rfl ?_
                    refine WL.p rfl rfl rfl (P.pickF rfl rfl) ?_
                    refine WL.p rfl rfl rfl (P.assign rfl) ?_
                    refine WL.nil_ ?_
                    refine End.seq ?_
                    refine WC.ret ?_
                    refine End.ret1 rfl rfl ?_
                    exact fun w' hs' => RetV.of (by rw [dataOK, hokF]; simp only [*, Bool.true_and, Bool.false_and, Bool.true_or, Bool.false_or]) hs'
                ·
                  refine WL.p rfl rfl rfl (P.fieldAddr fa_31_17 rfl) ?_
                  refine WL.p rfl rfl rfl (P.loadO 5 Tryz.isAgg9 rfl rfl rfl) ?_
                  refine WL.callv (ent_of Tryz.func202 rfl rfl) rfl rfl rfl (fun w hs => word_any _ w (hg.st hs)) ?_
                  refine WL.p rfl rfl rfl (P.pickF rfl rfl) ?_
                  refine WL.p rfl rfl rfl (P.pickT rfl rfl) ?_
                  refine WL.p rfl rfl rfl (P.move rfl) ?_
                  refine WL.split 105 rfl (fun hs105 => ?_) (fun hs105 => ?_)
                  ·
                    refine WL.p rfl rfl rfl (P.fieldAddr fa_31_18 rfl) ?_
                    refine WL.p rfl rfl rfl (P.loadO 5 Tryz.isAgg3 rfl rfl rfl) ?_
                    refine WL.p rfl rfl rfl (P.fieldAddr fa_31_19 rfl) ?_
                    refine WL.p rfl rfl rfl (P.loadO 5 Tryz.isAgg3 rfl rfl rfl) ?_
                    refine WL.p rfl rfl rfl (P.fieldAddr fa_34_4 rfl) ?_
                    refine WL.p rfl rfl rfl (P.loadO 6 Tryz.isAgg3 rfl rfl rfl) ?_
                    refine WL.row Tryz.underlying22 Tryz.sizeOf3 Tryz.zeroValue3 rfl rfl rfl rfl rfl rfl rfl rfl rfl (fun b112 => ?_)
                    refine WL.callv (ent_of Tryz.func264 rfl rfl) rfl rfl rfl (fun w hs => day_any _ _ [e.ds.created, e.ds.expires, e.used] w (hg.st hs) (slI_row hs (j := 0) rfl rfl (by simp))) ?_
                    refine WL.p rfl rfl rfl (P.pickT rfl rfl) ?_
                    refine WL.p rfl rfl rfl (P.move rfl) ?_
                    refine WL.split 115 rfl (fun hs115 => ?_) (fun hs115 => ?_)
                    ·
                      refine WL.p rfl rfl rfl (P.fieldAddr fa_34_3 rfl) ?_
                      refine WL.p rfl rfl rfl (P.loadO 7 Tryz.isAgg22 rfl rfl rfl) ?_
                      refine WL.p rfl rfl rfl (P.lenR Tryz.underlying22 rfl) ?_
                      refine WL.p rfl rfl rfl (P.cmp rfl rfl rfl) ?_
                      refine WL.p rfl rfl rfl (P.pickT rfl rfl) ?_
                      refine WL.p rfl rfl rfl (P.assign rfl) ?_
                      refine WL.nil_ ?_
                      refine End.seq ?_
                      refine WC.ret ?_
                      refine End.ret1 rfl rfl ?_
                      exact fun w' hs' => RetV.of (by rw [dataOK, hokF]; simp only [*, Bool.true_and, Bool.false_and, Bool.true_or, Bool.false_or]) hs'
                    ·
                      refine WL.off rfl rfl ?_
                      refine WL.off rfl rfl ?_
                      refine WL.off rfl rfl ?_
                      refine WL.off rfl rfl ?_
                      refine WL.p rfl rfl rfl (P.pickF rfl rfl) ?_
                      refine WL.p rfl rfl rfl (P.assign rfl) ?_
                      refine WL.nil_ ?_
                      refine End.seq ?_
                      refine WC.ret ?_
                      refine End.ret1 rfl rfl ?_
                      exact fun w' hs' => RetV.of (by rw [dataOK, hokF]; simp only [*, Bool.true_and, Bool.false_and, Bool.true_or, Bool.false_or]) hs'
                  ·
                    refine WL.off rfl rfl ?_
                    refine WL.off rfl rfl ?_
                    refine WL.off rfl rfl ?_
                    refine WL.off rfl rfl ?_
                    refine WL.off rfl rfl ?_
                    refine WL.off rfl rfl ?_
                    refine WL.off rfl rfl ?_
                    refine WL.off rfl rfl ?_
                    refine WL.p rfl rfl rfl (P.pickF rfl rfl) ?_
                    refine WL.p rfl rfl rfl (P.move rfl) ?_
                    refine WL.off rfl rfl ?_
                    refine WL.off rfl rfl ?_
                    refine WL.off rfl rfl ?_
                    refine WL.off rfl rfl ?_
                    refine WL.p rfl rfl rfl (P.pickF rfl rfl) ?_
                    refine WL.p rfl rfl rfl (P.assign rfl) ?_
                    refine WL.nil_ ?_
                    refine End.seq ?_
                    refine WC.ret ?_
                    refine End.ret1 rfl rfl ?_
                    exact fun w' hs' => RetV.of (by rw [dataOK, hokF]; simp only [*, Bool.true_and, Bool.false_and, Bool.true_or, Bool.false_or]) hs'
              ·
                refine WL.p rfl rfl rfl (P.fieldAddr fa_31_16 rfl) ?_
                refine WL.p rfl rfl rfl (P.loadO 5 Tryz.isAgg9 rfl rfl rfl) ?_
                refine WL.callv (ent_of Tryz.func202 rfl rfl) rfl rfl rfl (fun w hs => word_any _ w (hg.st hs)) ?_
                refine WL.p rfl rfl rfl (P.pickF rfl rfl) ?_
                refine WL.p rfl rfl rfl (P.pickT rfl rfl) ?_
                refine WL.p rfl rfl rfl (P.move rfl) ?_
                refine WL.split 95 rfl (fun hs95 => ?_) (fun hs95 => ?_)
                ·
                  refine WL.p rfl rfl rfl (P.fieldAddr fa_31_17 rfl) ?_
                  refine WL.p rfl rfl rfl (P.loadO 5 Tryz.isAgg9 rfl rfl rfl) ?_
                  refine WL.p rfl rfl rfl (P.cmps rfl rfl rfl) ?_
                  refine WL.p rfl rfl rfl (P.move rfl) ?_
                  refine WL.split 99 rfl (fun hs99 => ?_) (fun hs99 => ?_)
                  ·
                    refine WL.off rfl rfl ?_
                    refine WL.off rfl rfl ?_
                    refine WL.off rfl rfl ?_
                    refine WL.p rfl rfl rfl (P.pickT rfl rfl) ?_
                    refine WL.p rfl rfl rfl (P.pickT rfl rfl) ?_
                    refine WL.p rfl rfl rfl (P.move rfl) ?_
                    refine WL.p rfl rfl rfl (P.fieldAddr fa_31_18 rfl) ?_
                    refine WL.p rfl rfl rfl (P.loadO 5 Tryz.isAgg3 rfl rfl rfl) ?_
                    refine WL.p rfl rfl rfl (P.fieldAddr fa_31_19 rfl) ?_
                    refine WL.p rfl rfl rfl (P.loadO 5 Tryz.isAgg3 rfl rfl rfl) ?_
                    refine WL.p rfl rfl rfl (P.fieldAddr fa_34_4 rfl) ?_
                    refine WL.p rfl rfl rfl (P.loadO 6 Tryz.isAgg3 rfl rfl rfl) ?_
                    refine WL.row Tryz.underlying22 Tryz.sizeOf3 Tryz.zeroValue3 rfl rfl rfl rfl rfl rfl rfl rfl rfl (fun b112 => ?_)
                    refine WL.callv (ent_of Tryz.func264 rfl rfl) rfl rfl rfl (fun w hs => day_any _ _ [e.ds.created, e.ds.expires, e.used] w (hg.st hs) (slI_row hs (j := 0) rfl rfl (by simp))) ?_
                    refine WL.p rfl rfl rfl (P.pickT rfl rfl) ?_
                    refine WL.p rfl rfl rfl (P.move rfl) ?_
                    refine WL.split 115 rfl (fun hs115 => ?_) (fun hs115 => ?_)
                    ·
                      refine WL.p rfl rfl rfl (P.fieldAddr fa_34_3 rfl) ?_
                      refine WL.p rfl rfl rfl (P.loadO 7 Tryz.isAgg22 rfl rfl rfl) ?_
                      refine WL.p rfl rfl rfl (P.lenR Tryz.underlying22 rfl) ?_
                      refine WL.p rfl rfl rfl (P.cmp rfl rfl rfl) ?_
                      refine WL.p rfl rfl rfl (P.pickT rfl rfl) ?_
                      refine WL.p rfl rfl rfl (P.assign rfl) ?_
                      refine WL.nil_ ?_
                      refine End.seq ?_
                      refine WC.ret ?_
                      refine End.ret1 rfl rfl ?_
                      exact fun w' hs' => RetV.of (by rw [dataOK, hokF]; simp only [*, Bool.true_and, Bool.false_and, Bool.true_or, Bool.false_or]) hs'
                    ·
                      refine WL.off rfl rfl ?_
                      refine WL.off rfl rfl ?_
                      refine WL.off rfl rfl ?_
                      refine WL.off rfl rfl ?_
                      refine WL.p rfl rfl rfl (P.pickF rfl rfl) ?_
                      refine WL.p rfl rfl rfl (P.assign rfl) ?_
                      refine WL.nil_ ?_
                      refine End.seq ?_
                      refine WC.ret ?_
                      refine End.ret1 rfl rfl ?_
                      exact fun w' hs' => RetV.of (by rw [dataOK, hokF]; simp only [*, Bool.true_and, Bool.false_and, Bool.true_or, Bool.false_or]) hs'
                  ·
                    refine WL.p rfl rfl rfl (P.fieldAddr fa_31_17 rfl) ?_
                    refine WL.p rfl rfl rfl (P.loadO 5 Tryz.isAgg9 rfl rfl rfl) ?_
                    refine WL.callv (ent_of Tryz.func202 rfl rfl) rfl rfl rfl (fun w hs => word_any _ w (hg.st hs)) ?_
                    refine WL.p rfl rfl rfl (P.pickF rfl rfl) ?_
                    refine WL.p rfl rfl rfl (P.pickT rfl rfl) ?_
                    refine WL.p rfl rfl rfl (P.move rfl) ?_
                    refine WL.split 105 rfl (fun hs105 => ?_) (fun hs105 => ?_)
                    ·
                      refine WL.p rfl rfl rfl (P.fieldAddr fa_31_18 rfl) ?_
                      refine WL.p rfl rfl rfl (P.loadO 5 Tryz.isAgg3 rfl rfl rfl) ?_
                      refine WL.p rfl rfl rfl (P.fieldAddr fa_31_19 rfl) ?_
                      refine WL.p rfl rfl rfl (P.loadO 5 Tryz.isAgg3 rfl rfl rfl) ?_
                      refine WL.p rfl rfl rfl (P.fieldAddr fa_34_4 rfl) ?_
                      refine WL.p rfl rfl rfl (P.loadO 6 Tryz.isAgg3 rfl rfl rfl) ?_
                      refine WL.row Tryz.underlying22 Tryz.sizeOf3 Tryz.zeroValue3 rfl rfl rfl rfl rfl rfl rfl rfl rfl (fun b112 => ?_)
                      refine WL.callv (ent_of Tryz.func264 rfl rfl) rfl rfl rfl (fun w hs => day_any _ _ [e.ds.created, e.ds.expires, e.used] w (hg.st hs) (slI_row hs (j := 0) rfl rfl (by simp))) ?_
                      refine WL.p rfl rfl rfl (P.pickT rfl rfl) ?_
                      refine WL.p rfl rfl rfl (P.move rfl) ?_
                      refine WL.split 115 rfl (fun hs115 => ?_) (fun hs115 => ?_)
                      ·
                        refine WL.p rfl rfl rfl (P.fieldAddr fa_34_3 rfl) ?_
                        refine WL.p rfl rfl rfl (P.loadO 7 Tryz.isAgg22 rfl rfl rfl) ?_
                        refine WL.p rfl rfl rfl (P.lenR Tryz.underlying22 rfl) ?_
                        refine WL.p rfl rfl rfl (P.cmp rfl rfl rfl) ?_
                        refine WL.p rfl rfl rfl (P.pickT rfl rfl) ?_
                        refine WL.p rfl rfl rfl (P.assign rfl) ?_
                        refine WL.nil_ ?_
                        refine End.seq ?_
                        refine WC.ret ?_
                        refine End.ret1 rfl rfl ?_
                        exact fun w' hs' => RetV.of (by rw [dataOK, hokF]; simp only [*, Bool.true_and, Bool.false_and, Bool.true_or, Bool.false_or]) hs'
                      ·
                        refine WL.off rfl rfl ?_
                        refine WL.off rfl rfl ?_
                        refine WL.off rfl rfl ?_
                        refine WL.off rfl rfl ?_
                        refine WL.p rfl rfl rfl (P.pickF rfl rfl) ?_
                        refine WL.p rfl rfl rfl (P.assign rfl) ?_
                        refine WL.nil_ ?_
                        refine End.seq ?_
                        refine WC.ret ?_
                        refine End.ret1 rfl rfl ?_
                        exact fun w' hs' => RetV.of (by rw [dataOK, hokF]; simp only [*, Bool.true_and, Bool.false_and, Bool.true_or, Bool.false_or]) hs'
                    ·
                      refine WL.off rfl rfl ?_
                      refine WL.off rfl rfl ?_
                      refine WL.off rfl rfl ?_
                      refine WL.off rfl rfl ?_
                      refine WL.off rfl rfl ?_
                      refine WL.off rfl rfl ?_
                      refine WL.off rfl rfl ?_
                      refine WL.off rfl rfl ?_
                      refine WL.p rfl rfl rfl (P.pickF rfl rfl) ?_
                      refine WL.p rfl rfl rfl (P.move rfl) ?_
                      refine WL.off rfl rfl ?_
                      refine WL.off rfl rfl ?_
                      refine WL.off rfl rfl ?_
                      refine WL.off rfl rfl ?_
                      refine WL.p rfl rfl rfl (P.pickF rfl rfl) ?_
                      refine WL.p rfl rfl rfl (P.assign rfl) ?_
                      refine WL.nil_ ?_
                      refine End.seq ?_
                      refine WC.ret ?_
                      refine End.ret1 rfl rfl ?_
                      exact fun w' hs' => RetV.of (by rw [dataOK, hokF]; simp only [*, Bool.true_and, Bool.false_and, Bool.true_or, Bool.false_or]) hs'
                ·
                  refine WL.off rfl rfl ?_
                  refine WL.off rfl rfl ?_
                  refine WL.off rfl rfl ?_
                  refine WL.off rfl rfl ?_
                  refine WL.offU rfl rfl ?_
                  refine WL.offU rfl rfl ?_
                  refine WL.offU rfl rfl ?_
                  refine WL.off rfl rfl ?_
                  refine WL.p rfl rfl rfl (P.pickF rfl rfl) ?_
                  refine WL.p rfl rfl rfl (P.move rfl) ?_
                  refine WL.off rfl rfl ?_
                  refine WL.off rfl rfl ?_
                  refine WL.off rfl rfl ?_
                  refine WL.off rfl rfl ?_
                  refine WL.off rfl rfl ?_
                  refine WL.off rfl rfl ?_
                  refine WL.off rfl rfl ?_
                  refine WL.off rfl rfl ?_
                  refine WL.p rfl rfl rfl (P.pickF rfl rfl) ?_
                  refine WL.p rfl rfl rfl (P.move rfl) ?_
                  refine WL.off rfl rfl ?_
                  refine WL.off rfl rfl ?_
                  refine WL.off rfl rfl ?_
                  refine WL.off rfl rfl ?_
                  refine WL.p rfl rfl rfl (P.pickF rfl rfl) ?_
                  refine WL.p rfl rfl rfl (P.assign rfl) ?_
                  refine WL.nil_ ?_
                  refine End.seq ?_
                  refine WC.ret ?_
                  refine End.ret1 rfl rfl ?_
                  exact fun w' hs' => RetV.of (by rw [dataOK, hokF]; simp only [*, Bool.true_and, Bool.false_and, Bool.true_or, Bool.false_or]) hs'
            ·
              refine WL.off rfl rfl ?_
              refine WL.off rfl rfl ?_
              refine WL.off rfl rfl ?_
              refine WL.off rfl rfl ?_
              refine WL.offU rfl rfl ?_
              refine WL.offU rfl rfl ?_
              refine WL.offU rfl rfl ?_
              refine WL.off rfl rfl ?_
              refine WL.p rfl rfl rfl (P.pickF rfl rfl) ?_
              refine WL.p rfl rfl rfl (P.move rfl) ?_
              refine WL.off rfl rfl ?_
              refine WL.off rfl rfl ?_
              refine WL.off rfl rfl ?_
              refine WL.off rfl rfl ?_
              refine WL.offU rfl rfl ?_
              refine WL.offU rfl rfl ?_
              refine WL.offU rfl rfl ?_
              refine WL.off rfl rfl ?_
              refine WL.p rfl rfl rfl (P.pickF rfl rfl) ?_
              refine WL.p rfl rfl rfl (P.move rfl) ?_
              refine WL.off rfl rfl ?_
              refine WL.off rfl rfl ?_
              refine WL.off rfl rfl ?_
              refine WL.off rfl rfl ?_
              refine WL.off rfl rfl ?_
              refine WL.off rfl rfl ?_
              refine WL.off rfl rfl ?_
              refine WL.off rfl rfl ?_
              refine WL.p rfl rfl rfl (P.pickF rfl rfl) ?_
              refine WL.p rfl rfl rfl (P.move rfl) ?_
              refine WL.off rfl rfl ?_
              refine WL.off rfl rfl ?_
              refine WL.off rfl rfl ?_
              refine WL.off rfl rfl ?_
              refine WL.p rfl rfl rfl (P.pickF rfl rfl) ?_
              refine WL.p rfl rfl rfl (P.assign rfl) ?_
              refine WL.nil_ ?_
              refine End.seq ?_
              refine WC.ret ?_
              refine End.ret1 rfl rfl ?_
              exact fun w' hs' => RetV.of (by rw [dataOK, hokF]; simp only [*, Bool.true_and, Bool.false_and, Bool.true_or, Bool.false_or]) hs'
          ·
            refine WL.off rfl rfl ?_
            refine WL.off rfl rfl ?_
            refine WL.off rfl rfl ?_
            refine WL.off rfl rfl ?_
            refine WL.p rfl rfl rfl (P.pickF rfl rfl) ?_
            refine WL.p rfl rfl rfl (P.move rfl) ?_
            refine WL.off rfl rfl ?_
            refine WL.off rfl rfl ?_
            refine WL.off rfl rfl ?_
            refine WL.off rfl rfl ?_
            refine WL.offU rfl rfl ?_
            refine WL.offU rfl rfl ?_
            refine WL.offU rfl rfl ?_
            refine WL.off rfl rfl ?_
            refine WL.p rfl rfl rfl (P.pickF rfl rfl) ?_
            refine WL.p rfl rfl rfl (P.move rfl) ?_
            refine WL.off rfl rfl ?_
            refine WL.off rfl rfl ?_
            refine WL.off rfl rfl ?_
            refine WL.off rfl rfl ?_
            refine WL.offU rfl rfl ?_
            refine WL.offU rfl rfl ?_
            refine WL.offU rfl rfl ?_
            refine WL.off rfl rfl ?_
            refine WL.p rfl rfl rfl (P.pickF rfl rfl) ?_
            refine WL.p rfl rfl rfl (P.move rfl) ?_
            refine WL.off rfl rfl ?_
            refine WL.off rfl rfl ?_
            refine WL.off rfl rfl ?_
            refine WL.off rfl rfl ?_
            refine WL.off rfl rfl ?_
            refine WL.off rfl rfl ?_
            refine WL.off rfl rfl ?_
            refine WL.off rfl rfl ?_
            refine WL.p rfl rfl rfl (P.pickF rfl rfl) ?_
            refine WL.p rfl rfl rfl (P.move rfl) ?_
            refine WL.off rfl rfl ?_
            refine WL.off rfl rfl ?_
            refine WL.off rfl rfl ?_
            refine WL.off rfl rfl ?_
            refine WL.p rfl rfl rfl (P.pickF rfl rfl) ?_
            refine WL.p rfl rfl rfl (P.assign rfl) ?_
            refine WL.nil_ ?_
            refine End.seq ?_
            refine WC.ret ?_
            refine End.ret1 rfl rfl ?_
            exact fun w' hs' => RetV.of (by rw [dataOK, hokF]; simp only [*, Bool.true_and, Bool.false_and, Bool.true_or, Bool.false_or]) hs'
        ·
          refine WL.off rfl rfl ?_
          refine WL.off rfl rfl ?_
          refine WL.off rfl rfl ?_
          refine WL.off rfl rfl ?_
          refine WL.p rfl rfl rfl (P.pickF rfl rfl) ?_
          refine WL.p rfl rfl rfl (P.move rfl) ?_
          refine WL.off rfl rfl ?_
          refine WL.off rfl rfl ?_
          refine WL.off rfl rfl ?_
          refine WL.off rfl rfl ?_
          refine WL.p rfl rfl rfl (P.pickF rfl rfl) ?_
          refine WL.p rfl rfl rfl (P.move rfl) ?_
          refine WL.off rfl rfl ?_
          refine WL.off rfl rfl ?_
          refine WL.off rfl rfl ?_
          refine WL.off rfl rfl ?_
          refine WL.offU rfl rfl ?_
          refine WL.offU rfl rfl ?_
          refine WL.offU rfl rfl ?_
          refine WL.off rfl rfl ?_
          refine WL.p rfl rfl rfl (P.pickF rfl rfl) ?_
          refine WL.p rfl rfl rfl (P.move rfl) ?_
          refine WL.off rfl rfl ?_
          refine WL.off rfl rfl ?_
          refine WL.off rfl rfl ?_
          refine WL.off rfl rfl ?_
          refine WL.offU rfl rfl ?_
          refine WL.offU rfl rfl ?_
          refine WL.offU rfl rfl ?_
          refine WL.off rfl rfl ?_
          refine WL.p rfl rfl rfl (P.pickF rfl rfl) ?_
          refine WL.p rfl rfl rfl (P.move rfl) ?_
          refine WL.off rfl rfl ?_
          refine WL.off rfl rfl ?_
          refine WL.off rfl rfl ?_
          refine WL.off rfl rfl ?_
          refine WL.off rfl rfl ?_
          refine WL.off rfl rfl ?_
          refine WL.off rfl rfl ?_
          refine WL.off rfl rfl ?_
          refine WL.p rfl rfl rfl (P.pickF rfl rfl) ?_
          refine WL.p rfl rfl rfl (P.move rfl) ?_
          refine WL.off rfl rfl ?_
          refine WL.off rfl rfl ?_
          refine WL.off rfl rfl ?_
          refine WL.off rfl rfl ?_
          refine WL.p rfl rfl rfl (P.pickF rfl rfl) ?_
          refine WL.p rfl rfl rfl (P.assign rfl) ?_
          refine WL.nil_ ?_
          refine End.seq ?_
          refine WC.ret ?_
          refine End.ret1 rfl rfl ?_
          exact fun w' hs' => RetV.of (by rw [dataOK, hokF]; simp only [*, Bool.true_and, Bool.false_and, Bool.true_or, Bool.false_or]) hs'
      ·
        refine WL.off rfl rfl ?_
        refine WL.off rfl rfl ?_
        refine WL.off rfl rfl ?_
        refine WL.off rfl rfl ?_
        refine WL.p rfl rfl rfl (P.pickF rfl rfl) ?_
        refine WL.p rfl rfl rfl (P.move rfl) ?_
        refine WL.off rfl rfl ?_
        refine WL.off rfl rfl ?_
        refine WL.off rfl rfl ?_
        refine WL.off rfl rfl ?_
        refine WL.p rfl rfl rfl (P.pickF rfl rfl) ?_
        refine WL.p rfl rfl rfl (P.move rfl) ?_
        refine WL.off rfl rfl ?_
        refine WL.off rfl rfl ?_
        refine WL.off rfl rfl ?_
        refine WL.off rfl rfl ?_
        refine WL.p rfl rfl rfl (P.pickF rfl rfl) ?_
        refine WL.p rfl rfl rfl (P.move rfl) ?_
        refine WL.off rfl rfl ?_
        refine WL.off rfl rfl ?_
        refine WL.off rfl rfl ?_
        refine WL.off rfl rfl ?_
        refine WL.offU rfl rfl ?_
        refine WL.offU rfl rfl ?_
        refine WL.offU rfl rfl ?_
        refine WL.off rfl rfl ?_
        refine WL.p rfl rfl rfl (P.pickF rfl rfl) ?_
        refine WL.p rfl rfl rfl (P.move rfl) ?_
        refine WL.off rfl rfl ?_
        refine WL.off rfl rfl ?_
        refine WL.off rfl rfl ?_
        refine WL.off rfl rfl ?_
        refine WL.offU rfl rfl ?_
        refine WL.offU rfl rfl ?_
        refine WL.offU rfl rfl ?_
        refine WL.off rfl rfl ?_
        refine WL.p rfl rfl rfl (P.pickF rfl rfl) ?_
        refine WL.p rfl rfl rfl (P.move rfl) ?_
        refine WL.off rfl rfl ?_
        refine WL.off rfl rfl ?_
        refine WL.off rfl rfl ?_
        refine WL.off rfl rfl ?_
        refine WL.off rfl rfl ?_
        refine WL.off rfl rfl ?_
        refine WL.off rfl rfl ?_
        refine WL.off rfl rfl ?_
        refine WL.p rfl rfl rfl (P.pickF rfl rfl) ?_
        refine WL.p rfl rfl rfl (P.move rfl) ?_
        refine WL.off rfl rfl ?_
        refine WL.off rfl rfl ?_
        refine WL.off rfl rfl ?_
        refine WL.off rfl rfl ?_
        refine WL.p rfl rfl rfl (P.pickF rfl rfl) ?_
        refine WL.p rfl rfl rfl (P.assign rfl) ?_
        refine WL.nil_ ?_
        refine End.seq ?_
        refine WC.ret ?_
        refine End.ret1 rfl rfl ?_
        exact fun w' hs' => RetV.of (by rw [dataOK, hokF]; simp only [*, Bool.true_and, Bool.false_and, Bool.true_or, Bool.false_or]) hs'
    ·
      refine WL.off rfl rfl ?_
      refine WL.off rfl rfl ?_
      refine WL.off rfl rfl ?_
      refine WL.off rfl rfl ?_
      refine WL.p rfl rfl rfl (P.pickF rfl rfl) ?_
      refine WL.p rfl rfl rfl (P.move rfl) ?_
      refine WL.off rfl rfl ?_
      refine WL.off rfl rfl ?_
      refine WL.off rfl rfl ?_
      refine WL.off rfl rfl ?_
      refine WL.p rfl rfl rfl (P.pickF rfl rfl) ?_
      refine WL.p rfl rfl rfl (P.move rfl) ?_
      refine WL.off rfl rfl ?_
      refine WL.off rfl rfl ?_
      refine WL.off rfl rfl ?_
      refine WL.off rfl rfl ?_
      refine WL.p rfl rfl rfl (P.pickF rfl rfl) ?_
      refine WL.p rfl rfl rfl (P.move rfl) ?_
      refine WL.off rfl rfl ?_
      refine WL.off rfl rfl ?_
      refine WL.off rfl rfl ?_
      refine WL.off rfl rfl ?_
      refine WL.p rfl rfl rfl (P.pickF rfl rfl) ?_
      refine WL.p rfl rfl rfl (P.move rfl) ?_
      refine WL.off rfl rfl ?_
      refine WL.off rfl rfl ?_
      refine WL.off rfl rfl ?_
      refine WL.off rfl rfl ?_
      refine WL.offU rfl rfl ?_
      refine WL.offU rfl rfl ?_
      refine WL.offU rfl rfl ?_
      refine WL.off rfl rfl ?_
      refine WL.p rfl rfl rfl (P.pickF rfl rfl) ?_
      refine WL.p rfl rfl rfl (P.move rfl) ?_
      refine WL.off rfl rfl ?_
      refine WL.off rfl rfl ?_
      refine WL.off rfl rfl ?_
      refine WL.off rfl rfl ?_
      refine WL.offU rfl rfl ?_
      refine WL.offU rfl rfl ?_
      refine WL.offU rfl rfl ?_
      refine WL.off rfl rfl ?_
      refine WL.p rfl rfl rfl (P.pickF rfl rfl) ?_
      refine WL.p rfl rfl rfl (P.move rfl) ?_
      refine WL.off rfl rfl ?_
      refine WL.off rfl rfl ?_
      refine WL.off rfl rfl ?_
      refine WL.off rfl rfl ?_
      refine WL.off rfl rfl ?_
      refine WL.off rfl rfl ?_
      refine WL.off rfl rfl ?_
      refine WL.off rfl rfl ?_
      refine WL.p rfl rfl rfl (P.pickF rfl rfl) ?_
      refine WL.p rfl rfl rfl (P.move rfl) ?_
      refine WL.off rfl rfl ?_
      refine WL.off rfl rfl ?_
      refine WL.off rfl rfl ?_
      refine WL.off rfl rfl ?_
      refine WL.p rfl rfl rfl (P.pickF rfl rfl) ?_
      refine WL.p rfl rfl rfl (P.assign rfl) ?_
      refine WL.nil_ ?_
      refine End.seq ?_
      refine WC.ret ?_
      refine End.ret1 rfl rfl ?_
      exact fun w' hs' => RetV.of (by rw [dataOK, hokF]; simp only [*, Bool.true_and, Bool.false_and, Bool.true_or, Bool.false_or]) hs'

end Go.Proofs.YtlkkiimmangplaaGreatDoor

/- The kind of data sets; the five kinds together. -/
namespace Go.Proofs.YtlkkiimmangplaaGreatDoor
open Go.RowKit
set_option linter.unusedVariables false
set_option linter.unusedSimpArgs false
def nX : Nat → Rd → Rd
  | 0, x => x
  | k + 1, x => (nX k x).num.2
/-- The description of a data set, as it is read. -/
def dsRd (x : Rd) : DS := { id := clampN (nX 0 x).num.1, org := clampN (nX 1 x).num.1, format := clampN (nX 2 x).num.1, length := clampN (nX 3 x).num.1, block := clampN (nX 4 x).num.1, keyAt := clampN (nX 5 x).num.1, keyLength := clampN (nX 6 x).num.1, interval := clampN (nX 7 x).num.1, area := clampN (nX 8 x).num.1, freeInterval := clampN (nX 9 x).num.1, freeArea := clampN (nX 10 x).num.1, base := clampN (nX 11 x).num.1, altAt := clampN (nX 12 x).num.1, altLength := clampN (nX 13 x).num.1, unique := (dY1 x).bool.1, cls := clampN (dY1 x).bool.2.num.1, volume := ((dY1 x).bool.2.num.2.text 200).1, owner := (((dY1 x).bool.2.num.2.text 200).2.text 200).1, created := clampN (dY4 x).num.1, expires := clampN (dY4 x).num.2.num.1, archived := (dY7 x).bool.1 }
def dat : KF where
  kind := 0
  L := 68
  N := 76
  g := 194
  V := 195
  nm := nameB
  ok := dataOK
  out := dsOut
  rd := fun e x => ({ e with ds := dsRd x, alt := (dA x).1, used := clampN (dA x).2.num.1 }, (dA x).2.num.2)
  it := fun s e => aIt s e.alt
  va := fun s e => gVal s e.alt.length
  vg := fun _ _ => vnil
set_option maxHeartbeats 1000000 in
set_option maxRecDepth 100000 in
theorem dC_cells (e : E) (x : Rd) (v : Value) : dC (e.cells vnil vnil) x v = ({ e with ds := dsRd x, alt := (dA x).1, used := clampN (dA x).2.num.1 } : E).cells v vnil := by
  simp only [dC, dC8, insN, List.foldl_cons, List.foldl_nil, E.set2, E.set3, E.set4, E.set5, E.set6, E.set7, E.set8, E.set9, E.set10, E.set11, E.set12, E.set13, E.set14, E.set15, E.set16, E.set17, E.set18, E.set19, E.set20, E.set21, E.set22, E.set23, E.set24]
  rfl
theorem owner_size2 {s : ByteArray} (h : (s.toList == (⟨#[]⟩ : ByteArray).toList || wordB s) = true) : s.size ≤ 31 := by
  rw [toList_beq] at h
  exact owner_size h
theorem inB_mem {lo hi : Int} {l : List Int} (h : inB lo hi l = true) : ∀ x ∈ l, lo ≤ x ∧ x ≤ hi := fun x hx => by
  unfold inB at h
  rw [Bool.and_eq_true, List.all_eq_true, List.all_eq_true] at h
  exact ⟨of_decide_eq_true (h.1 x hx), of_decide_eq_true (h.2 x hx)⟩
theorem altOK_mem {l : List Int} (h : altOK l = true) : ∀ x ∈ l, 1 ≤ x ∧ x ≤ 1099511627776 := fun x hx => by
  obtain ⟨i, hi⟩ := List.mem_iff_getElem?.1 hx
  have hlt := (List.getElem?_eq_some_iff.1 hi).1
  unfold altOK at h
  have h1 := List.all_eq_true.1 h i (List.mem_range.2 hlt)
  unfold altE at h1
  rw [getD_ofI hi] at h1
  simp only [Bool.and_eq_true, Bool.not_eq_true', decide_eq_false_iff_not] at h1
  omega
theorem dataOK_lim {e : E} (h : dataOK e = true) : (∀ x ∈ e.alt, 1 ≤ x ∧ x ≤ 1099511627776) ∧ (∀ x ∈ dsNums e, 0 ≤ x ∧ x ≤ 1099511627776) ∧ (0 ≤ e.ds.cls ∧ e.ds.cls ≤ 3) ∧ e.ds.volume.size ≤ 31 ∧ e.ds.owner.size ≤ 31 ∧ (∀ x ∈ [e.ds.created, e.ds.expires, e.used], 0 ≤ x ∧ x ≤ 65536) ∧ e.alt.length ≤ 4 := by
  unfold dataOK at h
  simp only [Bool.and_eq_true] at h
  obtain ⟨h0, h1, h2, h3, h4, h5, h6, h7, h8, h9⟩ := h
  have g2 := inB_one h2
  have g3 := inB_one h3
  have g4 := inB_one h4
  have g1 := inB_mem h1
  refine ⟨altOK_mem h0, fun x hx => ?_, inB_one h5, owner_size2 (by simpa using h6), owner_size2 (by simpa using h7), fun x hx => dayB_lim (List.all_eq_true.1 h8 x hx), by have := of_decide_eq_true h9; omega⟩
  unfold dsNums at hx
  rcases List.mem_cons.1 hx with rfl | hx
  · omega
  · rcases List.mem_cons.1 hx with rfl | hx
    · omega
    · rcases List.mem_cons.1 hx with rfl | hx
      · omega
      · exact g1 x hx
theorem slI_blk {w0 w : World} {H : List It} {j b : Nat} {l : List Int} (hs : St w0 H w) (hj : H[j]? = some (.blk b 3 (ints l).toArray)) (hl : l.length ≤ 1000) : Sl encI 1 w (some ⟨b, 0, none⟩) l := slI_row hs hj rfl (by omega)
theorem dat_law : dat.Law where
  entN := ent_of Tryz.func76 rfl rfl
  entg := ent_of Tryz.func194 rfl rfl
  entV := ent_of Tryz.func195 rfl rfl
  form := ⟨0, rfl⟩
  name s w hg _ := nameValid_any s w hg
  okL e va vg w hg ha := dataOK_any e va vg w hg ha
  size e out h := by
    obtain ⟨_, _, _, h4, h5, _, h7⟩ := dataOK_lim h
    have z1 := numsOut_size (dsNums e) out
    have z1' : (dsNums e).length = 14 := rfl
    have z2 := encF_len 9 e.ds.cls
    have z3 := encText_size e.ds.volume
    have z4 := encText_size e.ds.owner
    have z5 := numsOut_size [e.ds.created, e.ds.expires] (dsOut1 out e)
    have z6 := encF_len 9 e.alt.length
    have z7 := numsOut_size e.alt (dsOut2 out e)
    have z8 := encF_len 9 e.used
    have y1 : (dsOut1 out e).size ≤ out.size + 400 := by simp only [dsOut1, size_append, strOfNums_size, List.length_cons, List.length_nil]; omega
    have y2 : (dsOut2 out e).size ≤ out.size + 600 := by simp only [dsOut2, size_append, strOfNums_size, List.length_cons, List.length_nil] at z5 ⊢; omega
    show (dsOut out e).size < _
    simp only [dsOut, size_append, strOfNums_size]
    omega
  write e va vg w0 h ha := fun c q out H w ho hs => by
    obtain ⟨h1, h2, h3, h4, h5, h6, h7⟩ := dataOK_lim h
    obtain ⟨⟨A1, c1, rfl, hc1, hr1⟩, _⟩ := ha
    exact data_w c q out e A1 c1 vg w0 w H hs hr1 (fun x hx => by have := h2 x hx; omega) (by omega) (fun x hx => by have := h6 x (by simp only [List.mem_cons, List.not_mem_nil, or_false] at hx ⊢; omega); omega) (by have := h6 e.used (by simp); omega) (fun x hx => by have := h1 x hx; omega) h7 ho (by omega) (by omega)
  read e x hal hgr hsz := fun r c q out w0 H w hs => by
    refine (data_r r c q x out _ w0 w H hs hsz rfl rfl).mono fun en w' h => ?_
    obtain ⟨b, h1, h2⟩ := h
    refine ⟨b, h1, ?_⟩
    have hlen : (dA x).1.length = dM x := aRead_len _ _
    show St w0 (rdB r (dA x).2.num.2 :: cB c out (some ⟨r, 0, none⟩) :: aIt b (dA x).1 :: .blk q 34 (({ e with ds := dsRd x, alt := (dA x).1, used := clampN (dA x).2.num.1 } : E).cells (gVal b (dA x).1.length) vnil) :: H) w'
    rw [hlen, ← dC_cells]
    exact h2
  at_ s j e e0 x H w0 w he hal hgr hs hj := by
    subst he
    have hlen : (dA x).1.length = dM x := aRead_len _ _
    have hcn := cntR_le4 (dY8 x)
    have hpn : dM x ≤ 5 := by unfold dM; omega
    refine ⟨?_, ⟨none, 0, ?_, ?_, ?_⟩⟩
    · show ∃ A c, gVal s (dA x).1.length = .slice A (dA x).1.length c ∧ (dA x).1.length ≤ c ∧ Sl encI 1 w A (dA x).1
      by_cases h0 : (dA x).1.length = 0
      · refine ⟨none, 0, by rw [gVal, if_pos h0, h0]; rfl, by omega, ?_⟩
        rw [List.length_eq_zero_iff.1 h0]
        exact Sl.nil _ _ _
      · refine ⟨some ⟨s, 0, none⟩, (dA x).1.length, by rw [gVal, if_neg h0], Nat.le_refl _, ?_⟩
        have hj' : H[j]? = some (.blk s 3 (ints (dA x).1).toArray) := by
          rw [hj]
          show some (aIt s (dA x).1) = _
          rw [aIt, if_neg h0]
        exact slI_blk hs hj' (by omega)
    · show vnil = .slice none e0.grants.length 0
      rw [hgr]; rfl
    · show e0.grants.length ≤ 0
      rw [hgr]; exact Nat.le_refl _
    · show Sl Gr.cells 3 w none e0.grants
      rw [hgr]; exact Sl.nil _ _ _
  keep e x := ⟨rfl, rfl⟩
  letter := by decide
  one s e := by
    refine ⟨?_, rfl⟩
    show (gVal s e.alt.length).oneCell' = true
    unfold gVal
    split <;> rfl
/-- The five kinds. -/
def kinds : Nat → KF
  | 0 => dat
  | 1 => grp
  | 2 => ali
  | 3 => cat
  | _ => prof
theorem kinds_fam : Fam kinds where
  law i hi := by
    rcases (by omega : i = 0 ∨ i = 1 ∨ i = 2 ∨ i = 3 ∨ i = 4) with rfl | rfl | rfl | rfl | rfl
    · exact dat_law
    · exact grp_law
    · exact ali_law
    · exact cat_law
    · exact prof_law
  kind i hi := by
    rcases (by omega : i = 0 ∨ i = 1 ∨ i = 2 ∨ i = 3 ∨ i = 4) with rfl | rfl | rfl | rfl | rfl <;> rfl
  ent i hi := by
    rcases (by omega : i = 0 ∨ i = 1 ∨ i = 2 ∨ i = 3 ∨ i = 4) with rfl | rfl | rfl | rfl | rfl <;> rfl
end Go.Proofs.YtlkkiimmangplaaGreatDoor

/- Valid, Key, Encode at any entry. -/
namespace Go.Proofs.YtlkkiimmangplaaGreatDoor
open Go.RowKit
set_option linter.unusedVariables false
set_option linter.unusedSimpArgs false
def isKind (k : Int) : Bool := decide (0 ≤ k) && decide (k ≤ 4)
theorem isKind_no {k : Int} (h : isKind k = false) : Instr.findNow (.int .i64) (.int .i64 k) formsEs.toList 0 = some none := by
  have hk : ¬ (0 ≤ k ∧ k ≤ 4) := fun hc => by simp [isKind, hc] at h
  have h0 : (k == 0) = false := beq_eq_false_iff_ne.2 (by omega)
  have h1 : (k == 1) = false := beq_eq_false_iff_ne.2 (by omega)
  have h2 : (k == 2) = false := beq_eq_false_iff_ne.2 (by omega)
  have h3 : (k == 3) = false := beq_eq_false_iff_ne.2 (by omega)
  have h4 : (k == 4) = false := beq_eq_false_iff_ne.2 (by omega)
  simp [formsEs, Instr.findNow, Instr.sameNow, h0, h1, h2, h3, h4]
theorem isKind_yes {k : Int} (h : isKind k = true) : ∃ i : Nat, i < 5 ∧ k = (i : Int) := by
  have hk : 0 ≤ k ∧ k ≤ 4 := by simpa [isKind] using h
  exact ⟨k.toNat, by omega, by omega⟩
def kindAt (k : Int) : KF := kinds k.toNat
def validE (e : E) : Bool := isKind e.kind && (kindAt e.kind).valid e
def keyE (k : Int) (s : ByteArray) : ByteArray := if isKind k = true then (kindAt k).key s else ⟨#[]⟩
def recE (e : E) : ByteArray := if validE e = true then (kindAt e.kind).record e else ⟨#[]⟩
theorem validE_any (e : E) (va vg : Value) (w : World) (hg : Good w) (ha : EntAt w e va vg) (hsz : e.name.size < 4294967281) : Calls Tryz.prog 47 #[.agg (e.cells va vg)] w (RetV w (.bool (validE e))) := by
  cases h : isKind e.kind with
  | false =>
    rw [show validE e = false by rw [validE, h]; rfl]
    exact valid_none e va vg w (isKind_no h)
  | true =>
    obtain ⟨i, hi, hk⟩ := isKind_yes h
    have hK : kindAt e.kind = kinds i := by rw [kindAt, hk, Int.toNat_natCast]
    rw [show validE e = (kinds i).valid e by rw [validE, h, hK]; rfl]
    exact valid_any (kinds i) (kinds_fam.law i hi) e va vg w hg (hk.trans (kinds_fam.kind i hi).symm) ha hsz
theorem keyE_any (k : Int) (s : ByteArray) (w : World) (hsz : s.size < 4294967281) : Calls Tryz.prog 49 #[.int .i64 k, .string s] w (RetV w (.string (keyE k s))) := by
  cases h : isKind k with
  | false =>
    rw [show keyE k s = ⟨#[]⟩ by rw [keyE, if_neg (by rw [h]; simp)]]
    exact key_none k s w (isKind_no h)
  | true =>
    obtain ⟨i, hi, hk⟩ := isKind_yes h
    have hK : kindAt k = kinds i := by rw [kindAt, hk, Int.toNat_natCast]
    rw [show keyE k s = (kinds i).key s by rw [keyE, if_pos h, hK]]
    have := key_any (kinds i) (kinds_fam.law i hi) s w hsz (kinds_fam.law i hi).letter
    rw [kinds_fam.kind i hi] at this
    rw [hk]
    exact this
theorem encodeE_any (e : E) (va vg : Value) (w : World) (hg : Good w) (ha : EntAt w e va vg) (hsz : e.name.size < 4294967281) : Calls Tryz.prog 54 #[.agg (e.cells va vg)] w (RetV w (.tuple #[.string (recE e), .int .i64 (if validE e = true then 0 else 1)])) := by
  cases h : isKind e.kind with
  | false =>
    have hv : validE e = false := by rw [validE, h]; rfl
    rw [show recE e = ⟨#[]⟩ by rw [recE, if_neg (by rw [hv]; simp)], if_neg (by rw [hv]; simp)]
    exact encode_none e va vg w (isKind_no h)
  | true =>
    obtain ⟨i, hi, hk⟩ := isKind_yes h
    have hK : kindAt e.kind = kinds i := by rw [kindAt, hk, Int.toNat_natCast]
    have hv : validE e = (kinds i).valid e := by rw [validE, h, hK]; rfl
    rw [show recE e = (if (kinds i).valid e = true then (kinds i).record e else ⟨#[]⟩) by rw [recE, hv, hK], hv]
    exact encode_any (kinds i) (kinds_fam.law i hi) e va vg w hg (hk.trans (kinds_fam.kind i hi).symm) ha hsz (kinds_fam.law i hi).letter
end Go.Proofs.YtlkkiimmangplaaGreatDoor

/- Few entries. -/
namespace Go.Proofs.YtlkkiimmangplaaGreatDoor
open Go.RowKit
set_option linter.unusedVariables false
set_option linter.unusedSimpArgs false

def who20 (g : Gr) : Bool := !decide (20 < (g.who.size : Int))
def few33 (e : E) : Bool := e.grants.all who20 && (decide ((e.name.size : Int) ≤ 60) && (decide ((e.alt.length : Int) ≤ 8) && (decide ((e.grants.length : Int) ≤ 12) && decide ((e.owner.size : Int) + (e.target.size : Int) + (e.ds.volume.size : Int) + (e.ds.owner.size : Int) ≤ 200))))
theorem all_no {l : List Gr} {k : Nat} {g : Gr} (h : l[k]? = some g) (hp : who20 g = false) : l.all who20 = false := by
  rw [Bool.eq_false_iff]
  intro he
  rw [List.all_eq_true.1 he g (List.mem_of_getElem? h)] at hp
  cases hp

set_option maxRecDepth 100000 in
theorem few33_any (e : E) (va vg : Value) (w : World) (ha : EntAt w e va vg) (hz1 : e.owner.size < 1000000000000000000) (hz2 : e.target.size < 1000000000000000000) (hz3 : e.ds.volume.size < 1000000000000000000) (hz4 : e.ds.owner.size < 1000000000000000000) :
    Calls Tryz.prog 46 #[.agg (e.cells va vg)] w (RetV w (.bool (few33 e))) := by
  obtain ⟨⟨A1, c1, rfl, hc1, hr1⟩, ⟨A2, c2, rfl, hc2, hr2⟩⟩ := ha
  refine enter Tryz.func46 rfl Tryz.ntmps46 rfl ?_
  refine WC.seq ?_
  refine WC.region ?_
  refine WL.box rfl rfl rfl (fun b1 => ?_)
  refine WL.p rfl rfl rfl (P.assign rfl) ?_
  refine WL.nil_ ?_
  refine End.seq ?_
  refine WC.seq ?_
  refine WC.seq ?_
  refine WC.region ?_
  refine WL.p rfl rfl rfl (P.fieldAddr fa_34_12 rfl) ?_
  refine WL.p rfl rfl rfl (P.loadO 0 Tryz.isAgg32 rfl rfl rfl) ?_
  refine WL.p rfl rfl rfl (P.lenR Tryz.underlying32 rfl) ?_
  refine WL.p rfl rfl rfl (P.move rfl) ?_
  refine WL.nil_ ?_
  refine End.seq ?_
  refine WC.block ?_
  refine WC.loopD (σ := Nat) (fun k => [(8, .int .i64 (k : Nat))]) (fun k => _) (fun k => k ≤ e.grants.length ∧ (e.grants.take k).all who20 = true) (fun k => e.grants.length - k) 0 ⟨Nat.zero_le _, rfl⟩ (Env.sub_cons rfl (Env.sub_nil)) [0] rfl rfl ?_
  rintro k ⟨hk, hok⟩
  refine WC.seq ?_
  refine WC.region ?_
  refine WL.p rfl rfl rfl (P.cmp rfl rfl rfl) ?_
  refine WL.nil_ ?_
  refine End.seq ?_
  refine WC.seq ?_
  refine WC.cond rfl (fun hc9 => ?_) (fun hc9 => ?_)
  ·
    have hkl : k < e.grants.length := by have := of_decide_eq_true hc9; omega
    have hl2 := hr2.1
    obtain ⟨b, off, rfl, hcx⟩ := hr2.at_ (by omega)
    obtain ⟨g, hx⟩ := get_of_lt (xs := e.grants) (k := k) hkl
    refine WC.skip ?_
    refine End.seq ?_
    refine WC.seq ?_
    refine WC.block ?_
    refine WC.seq ?_
    refine WC.region ?_
    refine WL.p rfl rfl rfl (P.elemAddr Tryz.underlying32 Tryz.sizeOf51 rfl rfl (by omega) (by omega)) ?_
    refine WL.p rfl rfl rfl (P.loadBA (vs := g.cells.toArray) Tryz.isAgg51 Tryz.sizeOf51 rfl rfl (fun j v h => hcx k g hx j v (by simpa using h))) ?_
    refine WL.alloc Tryz.zeroValue51 rfl rfl (fun b4 => ?_)
    refine WL.storeW 0 Tryz.sizeOf51 rfl rfl rfl rfl rfl rfl rfl ?_
    refine WL.nil_ ?_
    refine End.seq ?_
    refine WC.seq ?_
    refine WC.region ?_
    refine WL.p rfl rfl rfl (P.fieldAddr fa_51_0 rfl) ?_
    refine WL.p rfl rfl rfl (P.loadO 0 Tryz.isAgg9 rfl rfl rfl) ?_
    refine WL.p rfl rfl rfl (P.lenS Tryz.underlying9 rfl) ?_
    refine WL.p rfl rfl rfl (P.cmp rfl rfl rfl) ?_
    refine WL.nil_ ?_
    refine End.seq ?_
    refine WC.cond rfl (fun hc15 => ?_) (fun hc15 => ?_)
    ·
      refine WC.seq ?_
      refine WC.region ?_
      refine WL.p rfl rfl rfl (P.assign rfl) ?_
      refine WL.nil_ ?_
      refine End.seq ?_
      refine WC.ret ?_
      refine End.blkR ?_
      refine End.thenR ?_
      refine End.thenR ?_
      refine End.blkR ?_
      refine End.thenR ?_
      refine End.ret1 rfl rfl ?_
      exact fun w' hs' => RetV.of (by rw [few33, all_no hx (by rw [who20, show decide (20 < (g.who.size : Int)) = true from hc15]; rfl)]; rfl) hs'
    ·
      refine WC.skip ?_
      refine End.blkN ?_
      refine End.seq ?_
      refine WC.region ?_
      refine WL.p rfl rfl rfl (P.ari64 rfl rfl rfl (by omega)) ?_
      refine WL.p rfl rfl rfl (P.move rfl) ?_
      refine WL.nil_ ?_
      refine End.againD (k + 1) ?_ ?_ rfl (Env.sub_cons rfl (Env.sub_nil)) rfl [1] rfl rfl
      · exact ⟨by omega, by rw [all_snoc hx, hok, who20, show decide (20 < (g.who.size : Int)) = false from hc15]; rfl⟩
      · show e.grants.length - (k + 1) < e.grants.length - k; omega
  ·
    have ek : k = e.grants.length := by have := of_decide_eq_false hc9; omega
    have hokF : e.grants.all who20 = true := by rw [ek, List.take_length] at hok; exact hok
    refine WC.exit ?_
    refine End.thenX ?_
    refine End.thenX ?_
    refine End.blkX ?_
    refine End.seq ?_
    refine WC.seq ?_
    refine WC.region ?_
    refine WL.p rfl rfl rfl (P.fieldAddr fa_34_1 rfl) ?_
    refine WL.p rfl rfl rfl (P.loadO 0 Tryz.isAgg9 rfl rfl rfl) ?_
    refine WL.p rfl rfl rfl (P.lenS Tryz.underlying9 rfl) ?_
    refine WL.p rfl rfl rfl (P.cmp rfl rfl rfl) ?_
    refine WL.p rfl rfl rfl (P.move rfl) ?_
    refine WL.split 21 rfl (fun hs21 => ?_) (fun hs21 => ?_)
    ·
      refine WL.p rfl rfl rfl (P.fieldAddr fa_34_3 rfl) ?_
      refine WL.p rfl rfl rfl (P.loadO 0 Tryz.isAgg22 rfl rfl rfl) ?_
      refine WL.p rfl rfl rfl (P.lenR Tryz.underlying22 rfl) ?_
      refine WL.p rfl rfl rfl (P.cmp rfl rfl rfl) ?_
      refine WL.p rfl rfl rfl (P.pickT rfl rfl) ?_
      refine WL.p rfl rfl rfl (P.move rfl) ?_
      refine WL.split 27 rfl (fun hs27 => ?_) (fun hs27 => ?_)
      ·
        refine WL.p rfl rfl rfl (P.fieldAddr fa_34_12 rfl) ?_
        refine WL.p rfl rfl rfl (P.loadO 0 Tryz.isAgg32 rfl rfl rfl) ?_
        refine WL.p rfl rfl rfl (P.lenR Tryz.underlying32 rfl) ?_
        refine WL.p rfl rfl rfl (P.cmp rfl rfl rfl) ?_
        refine WL.p rfl rfl rfl (P.pickT rfl rfl) ?_
        refine WL.p rfl rfl rfl (P.move rfl) ?_
        refine WL.split 33 rfl (fun hs33 => ?_) (fun hs33 => ?_)
        ·
          refine WL.p rfl rfl rfl (P.fieldAddr fa_34_8 rfl) ?_
          refine WL.p rfl rfl rfl (P.loadO 0 Tryz.isAgg9 rfl rfl rfl) ?_
          refine WL.p rfl rfl rfl (P.lenS Tryz.underlying9 rfl) ?_
          refine WL.p rfl rfl rfl (P.fieldAddr fa_34_9 rfl) ?_
          refine WL.p rfl rfl rfl (P.loadO 0 Tryz.isAgg9 rfl rfl rfl) ?_
          refine WL.p rfl rfl rfl (P.lenS Tryz.underlying9 rfl) ?_
          refine WL.p rfl rfl rfl (P.ari64 rfl rfl rfl (by omega)) ?_
          refine WL.p rfl rfl rfl (P.fieldAddr fa_34_2 rfl) ?_
          refine WL.p rfl rfl rfl (P.fieldAddr fa_31_16 rfl) ?_
          refine WL.p rfl rfl rfl (P.loadO 0 Tryz.isAgg9 rfl rfl rfl) ?_
          refine WL.p rfl rfl rfl (P.lenS Tryz.underlying9 rfl) ?_
          refine WL.p rfl rfl rfl (P.ari64 rfl rfl rfl (by omega)) ?_
          refine WL.p rfl rfl rfl (P.fieldAddr fa_34_2 rfl) ?_
          refine WL.p rfl rfl rfl (P.fieldAddr fa_31_17 rfl) ?_
          refine WL.p rfl rfl rfl (P.loadO 0 Tryz.isAgg9 rfl rfl rfl) ?_
          refine WL.p rfl rfl rfl (P.lenS Tryz.underlying9 rfl) ?_
          refine WL.p rfl rfl rfl (P.ari64 rfl rfl rfl (by omega)) ?_
          refine WL.p rfl rfl rfl (P.cmp rfl rfl rfl) ?_
          refine WL.p rfl rfl rfl (P.pickT rfl rfl) ?_
          refine WL.p rfl rfl rfl (P.assign rfl) ?_
          refine WL.nil_ ?_
          refine End.seq ?_
          refine WC.ret ?_
          refine End.ret1 rfl rfl ?_
          exact fun w' hs' => RetV.of (by rw [few33, hokF]; simp only [*, Bool.true_and, Bool.false_and]) hs'
        ·
          refine WL.off rfl rfl ?_
          refine WL.off rfl rfl ?_
          refine WL.off rfl rfl ?_
          refine WL.off rfl rfl ?_
          refine WL.off rfl rfl ?_
          refine WL.off rfl rfl ?_
          refine WL.off rfl rfl ?_
          refine WL.off rfl rfl ?_
          refine WL.off rfl rfl ?_
          refine WL.off rfl rfl ?_
          refine WL.off rfl rfl ?_
          refine WL.off rfl rfl ?_
          refine WL.off rfl rfl ?_
          refine WL.off rfl rfl ?_
          refine WL.off rfl rfl ?_
          refine WL.off rfl rfl ?_
          refine WL.off rfl rfl ?_
          refine WL.off rfl rfl ?_
          refine WL.p rfl rfl rfl (P.pickF rfl rfl) ?_
          refine WL.p rfl rfl rfl (P.assign rfl) ?_
          refine WL.nil_ ?_
          refine End.seq ?_
          refine WC.ret ?_
          refine End.ret1 rfl rfl ?_
          exact fun w' hs' => RetV.of (by rw [few33, hokF]; simp only [*, Bool.true_and, Bool.false_and]) hs'
      ·
        refine WL.off rfl rfl ?_
        refine WL.off rfl rfl ?_
        refine WL.off rfl rfl ?_
        refine WL.off rfl rfl ?_
        refine WL.p rfl rfl rfl (P.pickF rfl rfl) ?_
        refine WL.p rfl rfl rfl (P.move rfl) ?_
        refine WL.off rfl rfl ?_
        refine WL.off rfl rfl ?_
        refine WL.off rfl rfl ?_
        refine WL.off rfl rfl ?_
        refine WL.off rfl rfl ?_
        refine WL.off rfl rfl ?_
        refine WL.off rfl rfl ?_
        refine WL.off rfl rfl ?_
        refine WL.off rfl rfl ?_
        refine WL.off rfl rfl ?_
        refine WL.off rfl rfl ?_
        refine WL.off rfl rfl ?_
        refine WL.off rfl rfl ?_
        refine WL.off rfl rfl ?_
        refine WL.off rfl rfl ?_
        refine WL.off rfl rfl ?_
        refine WL.off rfl rfl ?_
        refine WL.off rfl rfl ?_
        refine WL.p rfl rfl rfl (P.pickF rfl rfl) ?_
        refine WL.p rfl rfl rfl (P.assign rfl) ?_
        refine WL.nil_ ?_
        refine End.seq ?_
        refine WC.ret ?_
        refine End.ret1 rfl rfl ?_
        exact fun w' hs' => RetV.of (by rw [few33, hokF]; simp only [*, Bool.true_and, Bool.false_and]) hs'
    ·
      refine WL.off rfl rfl ?_
      refine WL.off rfl rfl ?_
      refine WL.off rfl rfl ?_
      refine WL.off rfl rfl ?_
      refine WL.p rfl rfl rfl (P.pickF rfl rfl) ?_
      refine WL.p rfl rfl rfl (P.move rfl) ?_
      refine WL.off rfl rfl ?_
      refine WL.off rfl rfl ?_
      refine WL.off rfl rfl ?_
      refine WL.off rfl rfl ?_
      refine WL.p rfl rfl rfl (P.pickF rfl rfl) ?_
      refine WL.p rfl rfl rfl (P.move rfl) ?_
      refine WL.off rfl rfl ?_
      refine WL.off rfl rfl ?_
      refine WL.off rfl rfl ?_
      refine WL.off rfl rfl ?_
      refine WL.off rfl rfl ?_
      refine WL.off rfl rfl ?_
      refine WL.off rfl rfl ?_
      refine WL.off rfl rfl ?_
      refine WL.off rfl rfl ?_
      refine WL.off rfl rfl ?_
      refine WL.off rfl rfl ?_
      refine WL.off rfl rfl ?_
      refine WL.off rfl rfl ?_
      refine WL.off rfl rfl ?_
      refine WL.off rfl rfl ?_
      refine WL.off rfl rfl ?_
      refine WL.off rfl rfl ?_
      refine WL.off rfl rfl ?_
      refine WL.p rfl rfl rfl (P.pickF rfl rfl) ?_
      refine WL.p rfl rfl rfl (P.assign rfl) ?_
      refine WL.nil_ ?_
      refine End.seq ?_
      refine WC.ret ?_
      refine End.ret1 rfl rfl ?_
      exact fun w' hs' => RetV.of (by rw [few33, hokF]; simp only [*, Bool.true_and, Bool.false_and]) hs'

end Go.Proofs.YtlkkiimmangplaaGreatDoor

/- The lines of an entry's text. -/
namespace Go.Proofs.YtlkkiimmangplaaGreatDoor
open Go.RowKit
set_option linter.unusedVariables false
set_option linter.unusedSimpArgs false

/-- A line of an entry's text. -/
def lineOf (word value : ByteArray) : ByteArray := ⟨#[32, 32]⟩ ++ word ++ ⟨#[32]⟩ ++ value
def addL (l : List ByteArray) (word value : ByteArray) : List ByteArray := if value = bempty then l else l ++ [lineOf word value]
/-- The lines so far: the variable that bears them, and their row. -/
abbrev lnB (b q n c : Nat) : It := .blk b 48 #[.slice (some ⟨q, 0, none⟩) n c]
abbrev lnR (q c : Nat) (l : List ByteArray) : It := .row 9 1 (.slice (some ⟨q, 0, none⟩) l.length c) l.length (strs l)
def LnR (w0 : World) (b : Nat) (l : List ByteArray) (H : List It) (en : Ending) (w' : World) : Prop := ∃ q c : Nat, en = .returned (.tuple #[]) ∧ St w0 (lnB b q l.length c :: lnR q c l :: H) w'
theorem strs_one1 (x : ByteArray) : ∀ u ∈ strs [x], u.oneCell' = true := by
  intro u hu
  simp [strs] at hu
  subst hu
  rfl

set_option maxRecDepth 100000 in
theorem pick_any (i : Int) (A : Option Addr) (c : Nat) (xs : List ByteArray) (x : ByteArray) (w : World) (hr : Sl encS 1 w A xs) (h0 : 0 ≤ i) (hx : xs[i.toNat]? = some x) :
    Calls Tryz.prog 127 #[.int .i64 i, .slice A xs.length c] w (RetV w (.string x)) := by
  have hlt := (List.getElem?_eq_some_iff.1 hx).1
  obtain ⟨b, off, rfl, hcx⟩ := hr.at_ (by omega)
  refine enter Tryz.func127 rfl Tryz.ntmps127 rfl ?_
  refine WC.seq ?_
  refine WC.region ?_
  refine WL.p rfl rfl rfl (P.assign rfl) ?_
  refine WL.nil_ ?_
  refine End.seq ?_
  refine WC.seq ?_
  refine WC.region ?_
  refine WL.p rfl rfl rfl (P.move rfl) ?_
  refine WL.p rfl rfl rfl (P.move rfl) ?_
  refine WL.p rfl rfl rfl (P.elemAddr Tryz.underlying48 Tryz.sizeOf9 rfl rfl (by omega) (by omega)) ?_
  refine WL.p rfl rfl rfl (P.loadB Tryz.isAgg9 rfl (by have h := hcx i.toNat x hx 0 _ rfl; rw [Int.toNat_natCast] at h; exact h)) ?_
  refine WL.p rfl rfl rfl (P.assign rfl) ?_
  refine WL.nil_ ?_
  refine End.seq ?_
  refine WC.ret ?_
  refine End.ret1 rfl rfl ?_
  exact fun w' hs' => RetV.of rfl hs'

set_option maxRecDepth 100000 in
theorem line_any (b q c : Nat) (l : List ByteArray) (word value : ByteArray) (w0 w : World) (H : List It) (hst : St w0 (lnB b q l.length c :: lnR q c l :: H) w) (hw : word.size < 1000) (hv : value.size < 100000) (hl : l.length < 10000) :
    Calls Tryz.prog 128 #[.string word, .string value, .pointer (some ⟨b, 0, none⟩)] w (LnR w0 b (addL l word value) H) := by
  refine enterH Tryz.func128 rfl Tryz.ntmps128 rfl hst ?_
  refine WC.seq ?_
  refine WC.region ?_
  refine WL.p rfl rfl rfl (P.move rfl) ?_
  refine WL.p rfl rfl rfl (P.cmps rfl rfl rfl) ?_
  refine WL.nil_ ?_
  refine End.seq ?_
  refine WC.cond rfl (fun hc6 => ?_) (fun hc6 => ?_)
  ·
    have hne : ¬ value = bempty := fun h => by rw [h] at hc6; simp [bempty] at hc6
    have ha : addL l word value = l ++ [lineOf word value] := if_neg hne
    refine WC.region ?_
    refine WL.p rfl rfl rfl (P.loadO 0 Tryz.isAgg48 rfl rfl rfl) ?_
    refine WL.p rfl rfl rfl (P.move rfl) ?_
    refine WL.p rfl rfl rfl (P.cat rfl rfl (by show 2 + _ ≤ _; omega)) ?_
    refine WL.p rfl rfl rfl (P.cat rfl rfl (by rw [size_append]; show 2 + _ + 1 ≤ _; omega)) ?_
    refine WL.p rfl rfl rfl (P.move rfl) ?_
    refine WL.p rfl rfl rfl (P.cat rfl rfl (by rw [size_append, size_append]; show 2 + _ + 1 + _ ≤ _; omega)) ?_
    refine WL.row Tryz.underlying48 Tryz.sizeOf9 Tryz.zeroValue9 rfl rfl rfl rfl rfl rfl rfl rfl rfl (fun b13 => ?_)
    refine WL.push 2 (l := l.length) (m := 1) (xs := strs l) (news := strs [lineOf word value]) (all := strs (l ++ [lineOf word value])) (lt := (l ++ [lineOf word value]).length) el48 rfl rfl rfl rfl rfl rfl (fun w hs => news_blk hs (j := 0) rfl rfl) (strs_one1 _) (strs_app _ _) (by simp) (by decide) (by simp only [maxLen]; omega) (by omega) (fun q2 c2 hq2 => ?_)
    refine WL.store 1 Tryz.sizeOf48 rfl rfl rfl rfl rfl rfl ?_
    refine WL.nil_ ?_
    refine End.norm ?_
    refine End.ret0 rfl ?_
    exact fun w' hs' => ⟨q2, c2, rfl, by rw [ha]; exact hs'.tail⟩
  ·
    have he : value = bempty := by rw [Bool.not_eq_false', toList_beq, decide_eq_true_eq] at hc6; exact hc6
    have ha : addL l word value = l := if_pos he
    refine WC.skip ?_
    refine End.norm ?_
    refine End.ret0 rfl ?_
    exact fun w' hs' => ⟨q, c, rfl, by rw [ha]; exact hs'⟩

end Go.Proofs.YtlkkiimmangplaaGreatDoor

/- Numbers, dates, truths in an entry's text. -/
namespace Go.Proofs.YtlkkiimmangplaaGreatDoor
open Go.RowKit
set_option linter.unusedVariables false
set_option linter.unusedSimpArgs false

abbrev lnF (b5 b : Nat) : It := .blk b5 141 #[.func (.func 128) #[] #[.pointer (some ⟨b, 0, none⟩)]]
def LnS (w0 : World) (b5 b : Nat) (l : List ByteArray) (H : List It) (en : Ending) (w' : World) : Prop := ∃ q c : Nat, en = .returned (.tuple #[]) ∧ St w0 (lnB b q l.length c :: lnR q c l :: lnF b5 b :: H) w'
def addN (l : List ByteArray) (word : ByteArray) (n : Int) : List ByteArray := if n = 0 then l else addL l word (itoaB n)

def addD (l : List ByteArray) (word : ByteArray) (n : Int) : List ByteArray := if n = 0 then l else addL l word (fmtP n)
def yesB : ByteArray := ⟨#[121, 101, 115]⟩
def addY (l : List ByteArray) (word : ByteArray) (x : Bool) : List ByteArray := if x = true then addL l word yesB else l

end Go.Proofs.YtlkkiimmangplaaGreatDoor

/- The text of an entry. -/
namespace Go.Proofs.YtlkkiimmangplaaGreatDoor
open Go.RowKit
set_option linter.unusedVariables false
set_option linter.unusedSimpArgs false

def kindWords : List ByteArray := [⟨#[100, 97, 116, 97]⟩, ⟨#[103, 114, 111, 117, 112]⟩, ⟨#[97, 108, 105, 97, 115]⟩, ⟨#[99, 97, 116, 97, 108, 111, 103]⟩, ⟨#[112, 114, 111, 102, 105, 108, 101]⟩]
abbrev kindLine (k : Nat) (name : ByteArray) : ByteArray := kindWords.getD k bempty ++ ⟨#[32]⟩ ++ name
def levelWords : List ByteArray := [⟨#[110, 111, 110, 101]⟩, ⟨#[114, 101, 97, 100]⟩, ⟨#[117, 112, 100, 97, 116, 101]⟩, ⟨#[97, 108, 116, 101, 114]⟩]

set_option maxRecDepth 100000 in
theorem textAlias_any (e : E) (va vg : Value) (w : World) (hg : Good w) (ha : EntAt w e va vg) (hk : e.kind = 2) (hv : validE e = true) (hsz : e.name.size ≤ 31) (ht : e.target.size ≤ 31) :
    Calls Tryz.prog 52 #[.agg (e.cells va vg)] w (Ret w (fun _ : Nat × Nat => True) (fun p => .slice (some ⟨p.1, 0, none⟩) (addL [kindLine 2 e.name] ⟨#[116, 97, 114, 103, 101, 116]⟩ e.target).length p.2) (fun p => [lnR p.1 p.2 (addL [kindLine 2 e.name] ⟨#[116, 97, 114, 103, 101, 116]⟩ e.target)])) := by
  have ha0 := ha
  obtain ⟨⟨A1, c1, rfl, hc1, hr1⟩, ⟨A2, c2, rfl, hc2, hr2⟩⟩ := ha
  have hkw : (kindWords.getD 2 bempty).size ≤ 10 := by decide
  have hbl : (⟨#[32]⟩ : ByteArray).size = 1 := rfl
  refine enter Tryz.func52 rfl Tryz.ntmps52 rfl ?_
  refine WC.seq ?_
  refine WC.region ?_
  refine WL.box rfl rfl rfl (fun b1 => ?_)
  refine WL.p rfl rfl rfl (P.assign rfl) ?_
  refine WL.nil_ ?_
  refine End.seq ?_
  refine WC.seq ?_
  refine WC.seq ?_
  refine WC.region ?_
  refine WL.p rfl rfl rfl (P.loadW 0 Tryz.isAgg34 Tryz.sizeOf34 rfl rfl rfl) ?_
  refine WL.callv (ent_of Tryz.func47 rfl rfl) rfl rfl rfl (fun w hs => by have := validE_any e _ _ w (hg.st hs) (ha0.st hs) (by omega); rw [hv] at this; exact this) ?_
  refine WL.p rfl rfl rfl (P.not_ rfl) ?_
  refine WL.nil_ ?_
  refine End.seq ?_
  refine WC.cond rfl (fun hc20 => ?_) (fun hc20 => ?_)
  ·
    cases hc20
  ·
    refine WC.skip ?_
    refine End.seq ?_
    refine WC.seq ?_
    refine WC.region ?_
    refine WL.p rfl rfl rfl (P.fieldAddr fa_34_2 rfl) ?_
    refine WL.p rfl rfl rfl (P.loadA 0 (vs := e.ds.cells) Tryz.isAgg31 Tryz.sizeOf31 rfl rfl rfl (E.ds_get e _ _)) ?_
    refine WL.alloc Tryz.zeroValue31 rfl rfl (fun b3 => ?_)
    refine WL.storeW 0 Tryz.sizeOf31 rfl rfl rfl rfl rfl rfl rfl ?_
    refine WL.nil_ ?_
    refine End.seq ?_
    refine WC.seq ?_
    refine WC.nil1 ?_
    refine WC.nil1 ?_
    refine WC.nil1 ?_
    apply WC.draws (al := [2, 8, 9]) (vs := [_, _, fun s => .slice (some ⟨(s 2).1, 0, none⟩) 5 5, _, _, _, _, _, fun s => .slice (some ⟨(s 8).1, 0, none⟩) 1 1, fun s => .pointer (some ⟨(s 9).1, 0, none⟩), fun _ => undef]) (Hs := fun v HH b s => (bnew (b 9) (It.blk (s 9).1 48 (lay #[.slice none 0 0] [(b 10, 0, 1, [v 8 s])])) (bnew (b 8) (It.blk (s 8).1 9 #[.string (kindWords.getD 2 bempty ++ ⟨#[32]⟩ ++ e.name)]) (bnew (b 2) (It.blk (s 2).1 9 (kindWords.map Value.string).toArray) HH 0) 1) 2)) (by kernel_rfl) (by kernel_rfl) (by kernel_rfl)
    case steps =>
      refine Stps.cons (Stp.p (fun b s hd => ⟨_, ⟨rfl, P.fieldAddr fa_34_0 rfl⟩, rfl, rfl⟩)) ?_
      refine Stps.cons (Stp.p (fun b s hd => ⟨_, ⟨rfl, P.loadO 4 Tryz.isAgg3 rfl rfl rfl⟩, rfl, rfl⟩)) ?_
      refine Stps.cons (Stp.row 0 rfl (fun b s => ⟨rfl, _, _, rfl, fun w => by refine run_rowL Tryz.underlying48 Tryz.sizeOf9 Tryz.zeroValue9 ?_ ?_ ?_ ?_ ?_ ?_ w <;> rfl, fun q => ⟨rfl, _, rfl, fun hb => rfl⟩⟩)) ?_
      refine Stps.cons (Stp.on [2] (by kernel_rfl) (Stp.callv (ent_of Tryz.func127 rfl rfl) (fun b s hd => ⟨_, _, rfl, rfl, fun w hs => pick_any e.kind _ _ kindWords (kindWords.getD 2 bempty) w (sl_row hs (j := 0) rfl (by decide)) (by omega) (by rw [hk]; rfl), rfl, rfl⟩))) ?_
      refine Stps.cons (Stp.p (fun b s hd => ⟨_, ⟨rfl, P.cat rfl rfl (by decide)⟩, rfl, rfl⟩)) ?_
      refine Stps.cons (Stp.p (fun b s hd => ⟨_, ⟨rfl, P.fieldAddr fa_34_1 rfl⟩, rfl, rfl⟩)) ?_
      refine Stps.cons (Stp.p (fun b s hd => ⟨_, ⟨rfl, P.loadO 4 Tryz.isAgg9 rfl rfl rfl⟩, rfl, rfl⟩)) ?_
      refine Stps.cons (Stp.p (fun b s hd => ⟨_, ⟨rfl, P.cat rfl rfl (by rw [size_append]; omega)⟩, rfl, rfl⟩)) ?_
      refine Stps.cons (Stp.off [10] (by kernel_rfl) (Stp.row 1 rfl (fun b s => ⟨rfl, _, _, rfl, fun w => by refine run_rowL Tryz.underlying48 Tryz.sizeOf9 Tryz.zeroValue9 ?_ ?_ ?_ ?_ ?_ ?_ w <;> rfl, fun q => ⟨rfl, _, rfl, fun hb => rfl⟩⟩))) ?_
      refine Stps.cons (Stp.off [10] (by kernel_rfl) (Stp.alloc 2 Tryz.zeroValue48 rfl (fun b s q => ⟨rfl, rfl, _, rfl, fun hb => rfl⟩))) ?_
      refine Stps.cons (Stp.store 2 0 Tryz.sizeOf48 (fun b s hd => ⟨b 9, _, _, _, _, _, _, rfl, rfl, rfl, rfl, rfl, hd 9 (by decide), rfl, rfl, rfl, rfl, rfl⟩)) ?_
      exact Stps.nil
    case h0 => exact fun s => rfl
    case agree => exact AgrAll.cons (AgrL.no (fun s x => rfl) (AgrL.no (fun s x => rfl) (AgrL.yes (by kernel_rfl) (AgrL.yes (by kernel_rfl) (AgrL.yes (by kernel_rfl) (AgrL.no (fun s x => rfl) (AgrL.no (fun s x => rfl) (AgrL.yes (by kernel_rfl) (AgrL.yes (by kernel_rfl) (AgrL.no (fun s x => rfl) (AgrL.yes (by kernel_rfl) (AgrL.nil)))))))))))) (AgrAll.cons (AgrL.no (fun s x => rfl) (AgrL.no (fun s x => rfl) (AgrL.no (fun s x => rfl) (AgrL.no (fun s x => rfl) (AgrL.no (fun s x => rfl) (AgrL.no (fun s x => rfl) (AgrL.no (fun s x => rfl) (AgrL.no (fun s x => rfl) (AgrL.yes (by kernel_rfl) (AgrL.no (fun s x => rfl) (AgrL.yes (by kernel_rfl) (AgrL.nil)))))))))))) (AgrAll.cons (AgrL.no (fun s x => rfl) (AgrL.no (fun s x => rfl) (AgrL.no (fun s x => rfl) (AgrL.no (fun s x => rfl) (AgrL.no (fun s x => rfl) (AgrL.no (fun s x => rfl) (AgrL.no (fun s x => rfl) (AgrL.no (fun s x => rfl) (AgrL.no (fun s x => rfl) (AgrL.yes (by kernel_rfl) (AgrL.yes (by kernel_rfl) (AgrL.nil)))))))))))) (AgrAll.nil)))
    intro s4
    refine End.shapeC (by kernel_rfl) (new := [(4, _), (23, _), (24, _), (25, _), (26, _), (27, _), (28, _), (29, _), (30, _), (31, _)]) (H' := [_, _, .blk _ _ #[_], _, _]) (Env.sub_cons rfl (Env.sub_cons rfl (Env.sub_cons rfl (Env.sub_cons rfl (Env.sub_cons rfl (Env.sub_cons rfl (Env.sub_cons rfl (Env.sub_cons rfl (Env.sub_cons rfl (Env.sub_cons rfl (Env.sub_nil))))))))))) rfl ?_
    refine End.seq ?_
    refine WC.seq ?_
    refine WC.region ?_
    refine WL.asRow 1 rfl rfl (by show 1 ≤ maxLen; decide) ?_
    refine WL.p rfl rfl rfl (P.makeFunc rfl) ?_
    refine WL.alloc Tryz.zeroValue141 rfl rfl (fun b5 => ?_)
    refine WL.store 0 Tryz.sizeOf141 rfl rfl rfl rfl rfl rfl ?_
    refine WL.nil_ ?_
    refine End.seq ?_
    refine WC.seq ?_
    refine WC.region ?_
    refine WL.p rfl rfl rfl (P.makeFunc rfl) ?_
    refine WL.p rfl rfl rfl (P.assign rfl) ?_
    refine WL.nil_ ?_
    refine End.seq ?_
    refine WC.seq ?_
    refine WC.region ?_
    refine WL.p rfl rfl rfl (P.makeFunc rfl) ?_
    refine WL.p rfl rfl rfl (P.assign rfl) ?_
    refine WL.nil_ ?_
    refine End.seq ?_
    refine WC.seq ?_
    refine WC.region ?_
    refine WL.p rfl rfl rfl (P.makeFunc rfl) ?_
    refine WL.p rfl rfl rfl (P.assign rfl) ?_
    refine WL.nil_ ?_
    refine End.seq ?_
    refine WC.seq ?_
    refine WC.region ?_
    refine WL.row Tryz.underlying48 Tryz.sizeOf9 Tryz.zeroValue9 rfl rfl rfl rfl rfl rfl rfl rfl rfl (fun b36 => ?_)
    refine WL.p rfl rfl rfl (P.assign rfl) ?_
    refine WL.nil_ ?_
    refine End.seq ?_
    refine WC.seq ?_
    refine WC.seq ?_
    refine WC.region ?_
    refine WL.p rfl rfl rfl (P.fieldAddr fa_34_0 rfl) ?_
    refine WL.p rfl rfl rfl (P.loadO 6 Tryz.isAgg3 rfl rfl rfl) ?_
    refine WL.nil_ ?_
    refine End.seq ?_
    refine WC.block ?_
    refine WC.seq ?_
    refine WC.region ?_
    refine WL.p rfl rfl rfl (P.cmp rfl rfl rfl) ?_
    refine WL.p rfl rfl rfl (P.assign rfl) ?_
    refine WL.nil_ ?_
    refine End.seq ?_
    refine WC.cond rfl (fun hc39 => ?_) (fun hc39 => ?_)
    ·
      exact absurd hc39 (by simp [E.cells, hk])
    ·
      refine WC.seq ?_
      refine WC.region ?_
      refine WL.p rfl rfl rfl (P.cmp rfl rfl rfl) ?_
      refine WL.p rfl rfl rfl (P.assign rfl) ?_
      refine WL.nil_ ?_
      refine End.seq ?_
      refine WC.cond rfl (fun hc142 => ?_) (fun hc142 => ?_)
      ·
        exact absurd hc142 (by simp [E.cells, hk])
      ·
        refine WC.seq ?_
        refine WC.region ?_
        refine WL.p rfl rfl rfl (P.cmp rfl rfl rfl) ?_
        refine WL.p rfl rfl rfl (P.assign rfl) ?_
        refine WL.nil_ ?_
        refine End.seq ?_
        refine WC.cond rfl (fun hc160 => ?_) (fun hc160 => ?_)
        ·
          refine WC.region ?_
          refine WL.p rfl rfl rfl (P.loadO 1 Tryz.isAgg141 rfl rfl rfl) ?_
          refine WL.p rfl rfl rfl (P.fieldAddr fa_34_9 rfl) ?_
          refine WL.p rfl rfl rfl (P.loadO 6 Tryz.isAgg9 rfl rfl rfl) ?_
          refine WL.mem [4, 3, 1, 6] rfl ?_
          refine WL.callG (α := Nat × Nat) (S := fun _ => True) (v := fun _ => .tuple #[]) (H' := fun p => (lnB (s4 9).1 p.1 (addL ([kindLine 2 e.name]) ⟨#[116, 97, 114, 103, 101, 116]⟩ (e.target)).length p.2 :: lnR p.1 p.2 (addL ([kindLine 2 e.name]) ⟨#[116, 97, 114, 103, 101, 116]⟩ (e.target)) :: _)) (ent_of Tryz.func128 rfl rfl) rfl rfl rfl rfl rfl rfl (fun w hs => (line_any (s4 9).1 (s4 8).1 1 ([kindLine 2 e.name]) ⟨#[116, 97, 114, 103, 101, 116]⟩ (e.target) _ w _ hs (by decide) (by omega) (by simp)).mono fun e w' h => by obtain ⟨q2, c2, h1, h2⟩ := h; exact ⟨(q2, c2), trivial, h1, h2⟩) (fun p2 _ => ?_)
          refine WL.nil_ ?_
          refine End.blkN ?_
          refine End.seq ?_
          refine WC.seq ?_
          refine WC.region ?_
          refine WL.p rfl rfl rfl (P.loadO 0 Tryz.isAgg48 rfl rfl rfl) ?_
          refine WL.p rfl rfl rfl (P.assign rfl) ?_
          refine WL.nil_ ?_
          refine End.seq ?_
          refine WC.ret ?_
          refine End.ret1 rfl rfl ?_
          exact fun w' hs' => ⟨p2, trivial, rfl, hs'.sel [1] rfl⟩
        ·
          exact absurd hc160 (by simp [E.cells, hk])

end Go.Proofs.YtlkkiimmangplaaGreatDoor

/- The codec in plain words: what is read is what was written. -/
namespace Go.Proofs.YtlkkiimmangplaaGreatDoor
open Go.RowKit
set_option linter.unusedVariables false
set_option linter.unusedSimpArgs false

abbrev by8 (n : Int) : UInt8 := UInt8.ofNat n.toNat
theorem by8_nat {n : Int} (h0 : 0 ≤ n) (h1 : n < 256) : ((by8 n).toNat : Int) = n := by
  show ((UInt8.ofNat n.toNat).toNat : Int) = n
  rw [UInt8.toNat_ofNat']
  omega
theorem drop_cons_get {l : List UInt8} {i : Nat} {b : UInt8} {r : List UInt8} (h : l.drop i = b :: r) : l[i]? = some b ∧ l.drop (i + 1) = r := by
  constructor
  · have := congrArg (fun q => q[0]?) h
    simpa using this
  · rw [← List.drop_drop, h]; rfl
/-- A number is read as it was written. -/
theorem decF_encF : ∀ (f i : Nat) (n acc : Int) (l rest : List UInt8), f + i = 9 → 0 ≤ n → n < 2 ^ (64 - 7 * i) → (0 < i → 0 < n) → l.drop i = (encF f n).map by8 ++ rest →
    decF (f + 1) i acc l = (acc + n * 2 ^ (7 * i), (i : Int) + (encF f n).length)
  | f, i, n, acc, l, rest, hf, h0, h1, hp, hl => by
    by_cases hs : n < 128
    · rw [encF_small hs] at hl ⊢
      obtain ⟨hg, _⟩ := drop_cons_get (by simpa using hl)
      have hb : ((UInt8.ofNat n.toNat).toNat : Int) = n := by8_nat h0 (by omega)
      rw [decF_done hg (fun h9 => by obtain ⟨rfl, h9⟩ := h9; simp at h1; omega) (by omega) (fun h => by have := hp h.2; omega), hb]
      rw [Int.emod_eq_of_lt h0 hs]
      simp
    · cases f with
      | zero =>
        have : i = 9 := by omega
        subst this
        simp at h1
        omega
      | succ f =>
        rw [encF_big (by omega)] at hl ⊢
        obtain ⟨hg, hd⟩ := drop_cons_get (by simpa using hl)
        have hb : ((UInt8.ofNat (n % 128 + 128).toNat).toNat : Int) = n % 128 + 128 := by8_nat (n := n % 128 + 128) (by omega) (by omega)
        rw [decF_next hg (fun h9 => by omega) (by omega), hb]
        have h2 : n / 128 < 2 ^ (64 - 7 * (i + 1)) := lim_step (by omega) h0 h1
        have ih := decF_encF f (i + 1) (n / 128) (acc + (n % 128 + 128) % 128 * 2 ^ (7 * i)) l rest (by omega) (by omega) h2 (by omega) (by simpa using hd)
        rw [ih]
        have e1 : (n % 128 + 128) % 128 = n % 128 := by omega
        have e2 : (2 : Int) ^ (7 * (i + 1)) = 128 * 2 ^ (7 * i) := by rw [show 7 * (i + 1) = 7 + 7 * i by omega, Int.pow_add]; rfl
        rw [e1, e2]
        refine Prod.ext ?_ ?_
        · show acc + n % 128 * 2 ^ (7 * i) + n / 128 * (128 * 2 ^ (7 * i)) = acc + n * 2 ^ (7 * i)
          have e3 : n * 2 ^ (7 * i) = (n % 128 + 128 * (n / 128)) * 2 ^ (7 * i) := by rw [Int.emod_add_mul_ediv]
          rw [e3, Int.add_mul, Int.add_assoc]
          congr 1
          congr 1
          rw [Int.mul_comm 128 (n / 128), Int.mul_assoc]
        · simp; omega
theorem data_append (a b : ByteArray) : (a ++ b).data.toList = a.data.toList ++ b.data.toList := by rw [ByteArray.data_append, Array.toList_append]
theorem encF_pos (f : Nat) (n : Int) : 0 < (encF f n).length := by
  cases f with
  | zero => simp [encF]
  | succ f => unfold encF; split <;> simp
theorem extract_rest (a b : ByteArray) (k : Nat) (hk : a.size = k) : (a ++ b).extract k (a ++ b).size = b := by
  apply toList_inj.1
  rw [ByteArray.toList_eq, ByteArray.toList_eq, ByteArray.data_extract]
  have hs : (a ++ b).size = (a.data.toList ++ b.data.toList).length := by rw [← data_append]; rfl
  have hk' : a.data.toList.length = k := hk
  simp only [Array.toList_extract, List.extract_eq_take_drop, data_append, hs]
  rw [List.drop_append_of_le_length (by omega), List.drop_eq_nil_of_le (by omega), List.nil_append, List.take_of_length_le (by simp; omega)]
theorem extract_front (a b : ByteArray) (k : Nat) (hk : a.size = k) : (a ++ b).extract 0 k = a := by
  apply toList_inj.1
  rw [ByteArray.toList_eq, ByteArray.toList_eq, ByteArray.data_extract]
  have hk' : a.data.toList.length = k := hk
  simp only [Array.toList_extract, List.extract_eq_take_drop, data_append]
  simp [← hk']
theorem num_back (n : Int) (t : ByteArray) (h0 : 0 ≤ n) (h1 : n < 9223372036854775808) : Rd.num (strOfNums (encF 9 n) ++ t, 0) = (n, (t, 0)) := by
  have hd : decF 10 0 0 (strOfNums (encF 9 n) ++ t).data.toList = (n, ((encF 9 n).length : Int)) := by
    have := decF_encF 9 0 n 0 (strOfNums (encF 9 n) ++ t).data.toList t.data.toList rfl h0 (by simp; omega) (fun h => absurd h (by decide)) (by rw [data_append, strOfNums_data]; rfl)
    simpa using this
  unfold Rd.num
  simp only [hd]
  have hp := encF_pos 9 n
  unfold Rd.take
  simp only [ne_eq, not_true_eq_false, if_false]
  rw [if_neg (by omega)]
  simp only [Int.toNat_natCast]
  rw [extract_rest _ _ _ (by rw [strOfNums_size])]
theorem bool_back (b : Bool) (t : ByteArray) : Rd.bool (strOfNums [if b then 1 else 0] ++ t, 0) = (b, (t, 0)) := by
  have hg : (strOfNums [if b then 1 else 0] ++ t).data.toList = (if b then 1 else 0) :: t.data.toList := by
    rw [data_append, strOfNums_data]
    cases b <;> rfl
  have hne : ¬ strOfNums [if b then 1 else 0] ++ t = bempty := fun e => by
    have := congrArg (fun q : ByteArray => q.data.toList) e
    simp only [hg] at this
    cases this
  have h1 : boolLen (strOfNums [if b then 1 else 0] ++ t) = 1 := by
    unfold boolLen
    rw [hg, if_neg]
    rintro (h | h)
    · exact hne h
    · cases b <;> simp at h
  have h2 : boolVal (strOfNums [if b then 1 else 0] ++ t) = b := by
    unfold boolVal
    rw [hg]
    cases b <;> rfl
  unfold Rd.bool Rd.take
  simp only [h1, h2]
  simp only [ne_eq, not_true_eq_false, if_false, Int.reduceEq]
  rw [extract_rest _ _ _ (by rw [strOfNums_size]; rfl)]
theorem text_back (s t : ByteArray) (most : Int) (h : (s.size : Int) ≤ most) (hm : most < 4294967296) : Rd.text (encText s ++ t, 0) most = (s, (t, 0)) := by
  have hn := num_back s.size (s ++ t) (by omega) (by omega)
  have hc : Rd.count (encText s ++ t, 0) most = ((s.size : Int), (s ++ t, 0)) := by
    unfold Rd.count encText
    rw [ByteArray.append_assoc, hn]
    simp only [ne_eq, not_true_eq_false, if_false]
    rw [if_neg (by omega)]
  unfold Rd.text
  rw [hc]
  simp only [ne_eq, not_true_eq_false, if_false]
  rw [if_neg (by rw [ByteArray.size_append]; omega)]
  simp only [Int.toNat_natCast]
  rw [extract_front _ _ _ rfl, extract_rest _ _ _ rfl]
theorem clampN_small {n : Int} (h : n ≤ 1099511627776) : clampN n = n := if_neg (by omega)
end Go.Proofs.YtlkkiimmangplaaGreatDoor

/- The reference's names: the parts of a text. -/
namespace Go.Proofs.YtlkkiimmangplaaGreatDoor
open Go.RowKit
set_option linter.unusedVariables false
set_option linter.unusedSimpArgs false

/-- The parts of a text between full stops, by its letters. -/
def sp : List UInt8 → List (List UInt8)
  | [] => [[]]
  | c :: r => if c = 46 then [] :: sp r else match sp r with
    | h :: t => (c :: h) :: t
    | [] => [[c]]
theorem sp_ne : ∀ l, sp l ≠ []
  | [] => by simp [sp]
  | c :: r => by
    unfold sp
    split
    · simp
    · split <;> simp
theorem sp_snoc : ∀ (a : List UInt8) (c : UInt8), ∃ ys y, sp a = ys ++ [y] ∧ sp (a ++ [c]) = if c = 46 then ys ++ [y] ++ [[]] else ys ++ [y ++ [c]]
  | [], c => ⟨[], [], rfl, by
    by_cases h : c = 46
    · simp [sp, h]
    · simp [sp, h]⟩
  | d :: r, c => by
    obtain ⟨ys, y, h1, h2⟩ := sp_snoc r c
    by_cases hd : d = 46
    · refine ⟨[] :: ys, y, by rw [sp, if_pos hd, h1]; rfl, ?_⟩
      rw [List.cons_append, sp, if_pos hd, h2]
      split <;> simp
    · cases ys with
      | nil =>
        refine ⟨[], d :: y, by rw [sp, if_neg hd, h1]; rfl, ?_⟩
        rw [List.cons_append, sp, if_neg hd, h2]
        by_cases h : c = 46
        · simp [h]
        · simp [h]
      | cons z zs =>
        refine ⟨(d :: z) :: zs, y, by rw [sp, if_neg hd, h1]; rfl, ?_⟩
        rw [List.cons_append, sp, if_neg hd, h2]
        by_cases h : c = 46
        · simp [h]
        · simp [h]
abbrev mkB (l : List UInt8) : ByteArray := ⟨l.toArray⟩
def spB (l : List UInt8) : List ByteArray := (sp l).map mkB
theorem spB_len : ∀ l : List UInt8, (sp l).length ≤ l.length + 1
  | [] => by simp [sp]
  | c :: r => by
    have := spB_len r
    unfold sp
    split
    · simp; omega
    · split
      · rename_i h t e
        rw [e] at this
        simp at this ⊢
        omega
      · simp
theorem sp_el : ∀ (l : List UInt8) (q : List UInt8), q ∈ sp l → q.length ≤ l.length
  | [], q, h => by simp [sp] at h; simp [h]
  | c :: r, q, h => by
    unfold sp at h
    split at h
    · rcases List.mem_cons.1 h with rfl | h
      · simp
      · have := sp_el r q h
        simp; omega
    · split at h
      · rename_i a t e
        rcases List.mem_cons.1 h with rfl | h
        · have := sp_el r a (by rw [e]; simp)
          simp; omega
        · have := sp_el r q (by rw [e]; simp [h])
          simp; omega
      · simp at h; simp [h]
theorem spB_el {l : List UInt8} {q : ByteArray} (h : q ∈ spB l) : q.size ≤ l.length := by
  obtain ⟨x, hx, rfl⟩ := List.mem_map.1 h
  have := sp_el l x hx
  simpa [mkB, ByteArray.size] using this
theorem take_of_get {l : List UInt8} {k : Nat} (h : k < l.length) : l.take (k + 1) = l.take k ++ [l[k]?.getD 0] := by
  rw [take_snoc (List.getElem?_eq_getElem h), List.getElem?_eq_getElem h]; rfl
theorem mk_push (y : List UInt8) (s : ByteArray) (k : Nat) (h : k < s.data.toList.length) : mkB y ++ s.extract k (k + 1) = mkB (y ++ [s.data.toList[k]?.getD 0]) := by
  apply toList_inj.1
  rw [ByteArray.toList_eq, ByteArray.toList_eq]
  have e : (s.extract k (k + 1)).data.toList = [s.data.toList[k]?.getD 0] := by
    rw [ByteArray.data_extract]
    simp only [Array.toList_extract, List.extract_eq_take_drop]
    rw [show k + 1 - k = 1 by omega, List.drop_eq_getElem_cons h, List.getElem?_eq_getElem h]
    rfl
  rw [ByteArray.data_append, Array.toList_append, e]
set_option maxRecDepth 100000 in
theorem refParts_any (tx : ByteArray) (w : World) (hsz : tx.size < 4294967281) :
    Calls Tryz.prog 124 #[.string tx] w (Ret w (fun p : Nat × Nat => (spB tx.data.toList).length ≤ p.2) (fun p => .slice (some ⟨p.1, 0, none⟩) (spB tx.data.toList).length p.2) (fun p => [.row 9 1 (.slice (some ⟨p.1, 0, none⟩) (spB tx.data.toList).length p.2) (spB tx.data.toList).length (strs (spB tx.data.toList))])) := by
  have hl : tx.size = tx.data.toList.length := rfl
  refine enter Tryz.func124 rfl Tryz.ntmps124 rfl ?_
  refine WC.seq ?_
  refine WC.region ?_
  refine WL.p rfl rfl rfl (P.assign rfl) ?_
  refine WL.nil_ ?_
  refine End.seq ?_
  refine WC.seq ?_
  refine WC.region ?_
  refine WL.row Tryz.underlying48 Tryz.sizeOf9 Tryz.zeroValue9 rfl rfl rfl rfl rfl rfl rfl rfl rfl (fun b5 => ?_)
  refine WL.asRow 0 rfl rfl (by decide) ?_
  refine WL.p rfl rfl rfl (P.assign rfl) ?_
  refine WL.nil_ ?_
  refine End.seq ?_
  refine WC.seq ?_
  refine WC.seq ?_
  refine WC.region ?_
  refine WL.p rfl rfl rfl (P.assign rfl) ?_
  refine WL.nil_ ?_
  refine End.seq ?_
  refine WC.block ?_
  refine WC.loopD (σ := Nat × Nat × Nat) (fun (i, g, c) => [(4, .int .i64 (i : Nat)), (3, .slice (some ⟨g, 0, none⟩) (spB (tx.data.toList.take i)).length c)]) (fun (i, g, c) => [.row 9 1 (.slice (some ⟨g, 0, none⟩) (spB (tx.data.toList.take i)).length c) (spB (tx.data.toList.take i)).length (strs (spB (tx.data.toList.take i)))]) (fun (i, g, c) => i ≤ tx.size ∧ (spB (tx.data.toList.take i)).length ≤ c) (fun (i, g, c) => tx.size - i) (0, b5, 1) ⟨Nat.zero_le _, Nat.le_refl _⟩ (Env.sub_cons rfl (Env.sub_cons rfl (Env.sub_nil))) [0] rfl rfl ?_
  rintro ⟨i, g, c⟩ ⟨hi0, hlc⟩
  refine WC.seq ?_
  refine WC.seq ?_
  refine WC.region ?_
  refine WL.p rfl rfl rfl (P.move rfl) ?_
  refine WL.p rfl rfl rfl (P.move rfl) ?_
  refine WL.p rfl rfl rfl (P.lenS Tryz.underlying9 rfl) ?_
  refine WL.p rfl rfl rfl (P.cmp rfl rfl rfl) ?_
  refine WL.nil_ ?_
  refine End.seq ?_
  refine WC.cond rfl (fun hc9 => ?_) (fun hc9 => ?_)
  ·
    try simp only [decide_eq_true_eq, decide_eq_false_iff_not, beq_iff_eq, beq_eq_false_iff_ne, bne_iff_ne, bne_eq_false_iff_eq, Bool.not_eq_true', Bool.not_eq_false', ne_eq, Int.not_lt, Int.not_le] at hc9
    have hi : i < tx.data.toList.length := by omega
    obtain ⟨ys, y, hy, hy1⟩ := sp_snoc (tx.data.toList.take i) (tx.data.toList[i]?.getD 0)
    rw [← take_of_get hi] at hy1
    have hll := spB_len (tx.data.toList.take i)
    have hlt : (tx.data.toList.take i).length ≤ i := List.length_take_le ..
    have hLn : (spB (tx.data.toList.take i)).length = ys.length + 1 := by simp [spB, hy]
    have hLl : (spB (tx.data.toList.take i)).length ≤ i + 1 := by simp [spB]; omega
    refine WC.skip ?_
    refine End.seq ?_
    refine WC.seq ?_
    refine WC.block ?_
    refine WC.seq ?_
    refine WC.region ?_
    refine WL.p rfl rfl rfl (P.move rfl) ?_
    refine WL.p rfl rfl rfl (P.move rfl) ?_
    refine WL.p rfl rfl rfl (P.byte Tryz.underlying9 rfl rfl (by omega) (by omega)) ?_
    refine WL.p rfl rfl rfl (P.cmp rfl rfl rfl) ?_
    refine WL.nil_ ?_
    refine End.seq ?_
    refine WC.cond rfl (fun hc15 => ?_) (fun hc15 => ?_)
    ·
      try simp only [decide_eq_true_eq, decide_eq_false_iff_not, beq_iff_eq, beq_eq_false_iff_ne, bne_iff_ne, bne_eq_false_iff_eq, Bool.not_eq_true', Bool.not_eq_false', ne_eq, Int.not_lt, Int.not_le] at hc15
      have hc : tx.data.toList[i]?.getD 0 = 46 := u8_eq (by decide) hc15
      rw [if_pos hc] at hy1
      have hL1 : strs (spB (tx.data.toList.take i)) ++ [.string ⟨#[]⟩] = strs (spB (tx.data.toList.take (i + 1))) := by simp [strs, spB, hy, hy1]
      have hL2 : (spB (tx.data.toList.take i)).length + 1 = (spB (tx.data.toList.take (i + 1))).length := by simp [spB, hy, hy1]
      refine WC.region ?_
      refine WL.p rfl rfl rfl (P.move rfl) ?_
      refine WL.row Tryz.underlying48 Tryz.sizeOf9 Tryz.zeroValue9 rfl rfl rfl rfl rfl rfl rfl rfl rfl (fun b17 => ?_)
      refine WL.push 1 (l := (spB (tx.data.toList.take i)).length) (m := 1) (xs := strs (spB (tx.data.toList.take i))) (news := [.string ⟨#[]⟩]) el48 rfl rfl rfl rfl rfl rfl (fun w hs => news_blk hs (j := 0) rfl rfl) (strs_one [⟨#[]⟩]) hL1 hL2 (by decide) (by simp only [maxLen]; omega) (by omega) (fun q cap hq => ?_)
      refine WL.p rfl rfl rfl (P.assign rfl) ?_
      refine WL.nil_ ?_
      refine End.blkN ?_
      refine End.seq ?_
      refine WC.region ?_
      refine WL.p rfl rfl rfl (P.move rfl) ?_
      refine WL.p rfl rfl rfl (P.ari64 rfl rfl rfl (by omega)) ?_
      refine WL.p rfl rfl rfl (P.assign rfl) ?_
      refine WL.nil_ ?_
      refine End.againD (i + 1, q, cap) ?_ ?_ rfl (Env.sub_cons rfl (Env.sub_cons rfl (Env.sub_nil))) rfl [1] rfl rfl
      · exact ⟨by omega, hq⟩
      · show tx.size - (i + 1) < tx.size - i; omega
    ·
      try simp only [decide_eq_true_eq, decide_eq_false_iff_not, beq_iff_eq, beq_eq_false_iff_ne, bne_iff_ne, bne_eq_false_iff_eq, Bool.not_eq_true', Bool.not_eq_false', ne_eq, Int.not_lt, Int.not_le] at hc15
      have hc : ¬ tx.data.toList[i]?.getD 0 = 46 := fun h => hc15 (by rw [show (i : Int).toNat = i from rfl, h]; rfl)
      rw [if_neg hc] at hy1
      have hx : (spB (tx.data.toList.take i))[(0 + ((((spB (tx.data.toList.take i)).length : Nat) : Int) - 1).toNat * 1)]? = some (mkB y) := by rw [hLn]; simp [spB, hy]
      have hys : y.length ≤ i := by have := sp_el (tx.data.toList.take i) y (by rw [hy]; simp); omega
      have hL2 : (spB (tx.data.toList.take i)).length = (spB (tx.data.toList.take (i + 1))).length := by simp [spB, hy, hy1]
      have hset : (strs (spB (tx.data.toList.take i))).set (0 + ((((spB (tx.data.toList.take i)).length : Nat) : Int) - 1).toNat * 1) (.string (mkB y ++ tx.extract (i : Int).toNat ((i : Int) + 1).toNat)) = strs (spB (tx.data.toList.take (i + 1))) := by rw [show tx.extract (i : Int).toNat ((i : Int) + 1).toNat = tx.extract i (i + 1) from rfl, mk_push y tx i hi, strs_set, hLn]; simp [spB, hy, hy1]
      apply WC.draws (al := []) (vs := [_, _, _, _, _, _, _, _, _, _, _, _, _, _, _, _, _, fun _ => undef]) (Hs := fun v HH b s => (bnew (b 17) (.row 9 1 (.slice (some ⟨g, 0, none⟩) (spB (tx.data.toList.take i)).length c) (spB (tx.data.toList.take i)).length ((strs (spB (tx.data.toList.take i))).set (0 + ((((spB (tx.data.toList.take i)).length : Nat) : Int) - 1).toNat * 1) (v 15 s))) HH 0)) (by kernel_rfl) (by kernel_rfl) (by kernel_rfl)
      case steps =>
        refine Stps.cons (Stp.p (fun b s hd => ⟨_, ⟨rfl, P.move rfl⟩, rfl, rfl⟩)) ?_
        refine Stps.cons (Stp.p (fun b s hd => ⟨_, ⟨rfl, P.move rfl⟩, rfl, rfl⟩)) ?_
        refine Stps.cons (Stp.p (fun b s hd => ⟨_, ⟨rfl, P.lenR Tryz.underlying48 rfl⟩, rfl, rfl⟩)) ?_
        refine Stps.cons (Stp.p (fun b s hd => ⟨_, ⟨rfl, P.ari64 rfl rfl rfl (by omega)⟩, rfl, rfl⟩)) ?_
        refine Stps.cons (Stp.p (fun b s hd => ⟨_, ⟨rfl, P.move rfl⟩, rfl, rfl⟩)) ?_
        refine Stps.cons (Stp.p (fun b s hd => ⟨_, ⟨rfl, P.move rfl⟩, rfl, rfl⟩)) ?_
        refine Stps.cons (Stp.p (fun b s hd => ⟨_, ⟨rfl, P.lenR Tryz.underlying48 rfl⟩, rfl, rfl⟩)) ?_
        refine Stps.cons (Stp.p (fun b s hd => ⟨_, ⟨rfl, P.ari64 rfl rfl rfl (by omega)⟩, rfl, rfl⟩)) ?_
        refine Stps.cons (Stp.p (fun b s hd => ⟨_, ⟨rfl, P.elemAddr Tryz.underlying48 Tryz.sizeOf9 rfl rfl (by omega) (by omega)⟩, rfl, rfl⟩)) ?_
        refine Stps.cons (Stp.pw [17] (by kernel_rfl) (fun b s' hd => ⟨_, ⟨rfl, P.loadR 0 Tryz.isAgg9 rfl rfl (strs_get hx)⟩, rfl, rfl⟩)) ?_
        refine Stps.cons (Stp.p (fun b s hd => ⟨_, ⟨rfl, P.move rfl⟩, rfl, rfl⟩)) ?_
        refine Stps.cons (Stp.p (fun b s hd => ⟨_, ⟨rfl, P.move rfl⟩, rfl, rfl⟩)) ?_
        refine Stps.cons (Stp.p (fun b s hd => ⟨_, ⟨rfl, P.move rfl⟩, rfl, rfl⟩)) ?_
        refine Stps.cons (Stp.p (fun b s hd => ⟨_, ⟨rfl, P.ari64 rfl rfl rfl (by omega)⟩, rfl, rfl⟩)) ?_
        refine Stps.cons (Stp.p (fun b s hd => ⟨_, ⟨rfl, P.subLH Tryz.underlying9 rfl rfl rfl (by omega) (by omega) (by omega)⟩, rfl, rfl⟩)) ?_
        refine Stps.cons (Stp.p (fun b s hd => ⟨_, ⟨rfl, P.cat rfl rfl (by have : (mkB y).size = y.length := (by simp [mkB, ByteArray.size]); have := ByteArray.size_extract (a := tx) (b := (i : Int).toNat) (e := ((i : Int) + 1).toNat); omega)⟩, rfl, rfl⟩)) ?_
        refine Stps.cons (Stp.p (fun b s hd => ⟨_, ⟨rfl, P.elemAddr Tryz.underlying48 Tryz.sizeOf9 rfl rfl (by omega) (by omega)⟩, rfl, rfl⟩)) ?_
        refine Stps.cons (Stp.storeR 0 Tryz.sizeOf9 (fun b s hd => ⟨_, _, _, _, _, _, _, rfl, rfl, rfl, rfl, (by omega), ⟨_, rfl⟩, rfl, fun hb => rfl⟩)) ?_
        exact Stps.nil
      case h0 => exact fun s => rfl
      case agree => exact AgrAll.nil
      intro s7
      refine End.shapeC (by kernel_rfl) (new := [(19, _), (20, _), (21, _), (22, _), (23, _), (24, _), (25, _), (26, _), (27, _), (28, _), (29, _), (30, _), (31, _), (32, _), (33, _), (34, _), (35, _)]) (H' := [.row _ _ _ _ (List.set _ _ _)]) (Env.sub_cons rfl (Env.sub_cons rfl (Env.sub_cons rfl (Env.sub_cons rfl (Env.sub_cons rfl (Env.sub_cons rfl (Env.sub_cons rfl (Env.sub_cons rfl (Env.sub_cons rfl (Env.sub_cons rfl (Env.sub_cons rfl (Env.sub_cons rfl (Env.sub_cons rfl (Env.sub_cons rfl (Env.sub_cons rfl (Env.sub_cons rfl (Env.sub_cons rfl (Env.sub_nil)))))))))))))))))) rfl ?_
      refine End.blkN ?_
      refine End.seq ?_
      refine WC.region ?_
      refine WL.is 3 rfl (congrArg (fun q => Value.slice (some ⟨g, 0, none⟩) q c) hL2) ?_
      refine WL.cast (H' := [.row 9 1 (.slice (some ⟨g, 0, none⟩) (spB (tx.data.toList.take (i + 1))).length c) (spB (tx.data.toList.take (i + 1))).length (strs (spB (tx.data.toList.take (i + 1))))]) (by show [It.row 9 1 (.slice (some ⟨g, 0, none⟩) (spB (tx.data.toList.take i)).length c) (spB (tx.data.toList.take i)).length ((strs (spB (tx.data.toList.take i))).set (0 + ((((spB (tx.data.toList.take i)).length : Nat) : Int) - 1).toNat * 1) (.string (mkB y ++ tx.extract (i : Int).toNat ((i : Int) + 1).toNat)))] = _; rw [hset, hL2]) ?_
      refine WL.p rfl rfl rfl (P.move rfl) ?_
      refine WL.p rfl rfl rfl (P.ari64 rfl rfl rfl (by omega)) ?_
      refine WL.p rfl rfl rfl (P.assign rfl) ?_
      refine WL.nil_ ?_
      refine End.againD (i + 1, g, c) ?_ ?_ rfl (Env.sub_cons rfl (Env.sub_cons rfl (Env.sub_nil))) rfl [0] rfl rfl
      · exact ⟨by omega, hL2 ▸ hlc⟩
      · show tx.size - (i + 1) < tx.size - i; omega
  ·
    try simp only [decide_eq_true_eq, decide_eq_false_iff_not, beq_iff_eq, beq_eq_false_iff_ne, bne_iff_ne, bne_eq_false_iff_eq, Bool.not_eq_true', Bool.not_eq_false', ne_eq, Int.not_lt, Int.not_le] at hc9
    refine WC.exit ?_
    refine End.thenX ?_
    refine End.thenX ?_
    refine End.blkX ?_
    refine End.seq ?_
    refine WC.seq ?_
    refine WC.region ?_
    refine WL.p rfl rfl rfl (P.move rfl) ?_
    refine WL.p rfl rfl rfl (P.assign rfl) ?_
    refine WL.nil_ ?_
    refine End.seq ?_
    refine WC.ret ?_
    refine End.ret1 rfl rfl ?_
    have e : i = tx.data.toList.length := by omega
    subst e
    intro w' hs'
    simp only [List.take_length] at hs' hlc ⊢
    exact ⟨(g, c), hlc, rfl, hs'⟩

end Go.Proofs.YtlkkiimmangplaaGreatDoor

/- The reference's names. -/
namespace Go.Proofs.YtlkkiimmangplaaGreatDoor
open Go.RowKit
set_option linter.unusedVariables false
set_option linter.unusedSimpArgs false

set_option maxRecDepth 100000 in
theorem refDigit_any (c : Int) (w : World) :
    Calls Tryz.prog 273 #[.int .u8 c] w (RetV w (.bool (isDigit c))) := by
  refine enter Tryz.func273 rfl Tryz.ntmps273 rfl ?_
  refine WC.seq ?_
  refine WC.region ?_
  refine WL.p rfl rfl rfl (P.assign rfl) ?_
  refine WL.nil_ ?_
  refine End.seq ?_
  refine WC.seq ?_
  refine WC.region ?_
  refine WL.p rfl rfl rfl (P.move rfl) ?_
  refine WL.p rfl rfl rfl (P.cmp rfl rfl rfl) ?_
  refine WL.p rfl rfl rfl (P.move rfl) ?_
  refine WL.split 5 rfl (fun hs5 => ?_) (fun hs5 => ?_)
  ·
    refine WL.p rfl rfl rfl (P.move rfl) ?_
    refine WL.p rfl rfl rfl (P.cmp rfl rfl rfl) ?_
    refine WL.p rfl rfl rfl (P.pickT rfl rfl) ?_
    refine WL.p rfl rfl rfl (P.assign rfl) ?_
    refine WL.nil_ ?_
    refine End.seq ?_
    refine WC.ret ?_
    refine End.ret1 rfl rfl ?_
    exact fun w' hs' => RetV.of (by simp [isDigit, hs5]) hs'
  ·
    refine WL.off rfl rfl ?_
    refine WL.off rfl rfl ?_
    refine WL.p rfl rfl rfl (P.pickF rfl rfl) ?_
    refine WL.p rfl rfl rfl (P.assign rfl) ?_
    refine WL.nil_ ?_
    refine End.seq ?_
    refine WC.ret ?_
    refine End.ret1 rfl rfl ?_
    exact fun w' hs' => RetV.of (by simp [isDigit, hs5]) hs'

set_option maxRecDepth 100000 in
theorem refLetter_any (c : Int) (w : World) :
    Calls Tryz.prog 283 #[.int .u8 c] w (RetV w (.bool (isUpper c))) := by
  refine enter Tryz.func283 rfl Tryz.ntmps283 rfl ?_
  refine WC.seq ?_
  refine WC.region ?_
  refine WL.p rfl rfl rfl (P.assign rfl) ?_
  refine WL.nil_ ?_
  refine End.seq ?_
  refine WC.seq ?_
  refine WC.region ?_
  refine WL.p rfl rfl rfl (P.move rfl) ?_
  refine WL.p rfl rfl rfl (P.cmp rfl rfl rfl) ?_
  refine WL.p rfl rfl rfl (P.move rfl) ?_
  refine WL.split 5 rfl (fun hs5 => ?_) (fun hs5 => ?_)
  ·
    refine WL.p rfl rfl rfl (P.move rfl) ?_
    refine WL.p rfl rfl rfl (P.cmp rfl rfl rfl) ?_
    refine WL.p rfl rfl rfl (P.pickT rfl rfl) ?_
    refine WL.p rfl rfl rfl (P.assign rfl) ?_
    refine WL.nil_ ?_
    refine End.seq ?_
    refine WC.ret ?_
    refine End.ret1 rfl rfl ?_
    exact fun w' hs' => RetV.of (by simp [isUpper, hs5]) hs'
  ·
    refine WL.off rfl rfl ?_
    refine WL.off rfl rfl ?_
    refine WL.p rfl rfl rfl (P.pickF rfl rfl) ?_
    refine WL.p rfl rfl rfl (P.assign rfl) ?_
    refine WL.nil_ ?_
    refine End.seq ?_
    refine WC.ret ?_
    refine End.ret1 rfl rfl ?_
    exact fun w' hs' => RetV.of (by simp [isUpper, hs5]) hs'

/-- The byte at a place, as a number. -/
abbrev byteAt (l : List UInt8) (k : Nat) : Int := ((l[(k : Int).toNat]?.getD 0).toNat : Int)
/-- A byte of a qualifier, or of one with stars: a star does not follow a star. -/
def okAt (stars : Bool) (l : List UInt8) (k : Nat) : Bool :=
  (isUpper (byteAt l k) || (isDigit (byteAt l k) || (stars && (byteAt l k == 42)))) && !((stars && (byteAt l k == 42)) && (decide ((0 : Int) < (k : Nat)) && (((l[((k : Int) - 1).toNat]?.getD 0).toNat : Int) == 42)))
/-- A part of a name or of a pattern. -/
def partB (stars : Bool) (s : ByteArray) : Bool :=
  (stars && (s.toList == (⟨#[42, 42]⟩ : ByteArray).toList)) || (decide (1 ≤ s.size) && (decide (s.size ≤ 8) && (!isDigit (byteAt s.data.toList 0) && (List.range s.size).all (okAt stars s.data.toList))))
theorem range_bad {p : Nat → Bool} {k n : Nat} (h : k < n) (hp : p k = false) : (List.range n).all p = false := by
  rw [Bool.eq_false_iff]
  intro he
  have := List.all_eq_true.1 he k (List.mem_range.2 h)
  rw [hp] at this; cases this
theorem partB_short {stars : Bool} {s : ByteArray} (h0 : (stars && (s.toList == (⟨#[42, 42]⟩ : ByteArray).toList)) = false) (h : (decide ((s.size : Int) < 1) || (decide ((8 : Int) < s.size) || isDigit (byteAt s.data.toList 0))) = true) : partB stars s = false := by
  rw [partB, h0, Bool.false_or]
  rw [Bool.or_eq_true, Bool.or_eq_true, decide_eq_true_eq, decide_eq_true_eq] at h
  rcases h with h | h | h
  · rw [decide_eq_false (by omega : ¬ 1 ≤ s.size)]; rfl
  · rw [decide_eq_false (by omega : ¬ s.size ≤ 8)]; simp
  · rw [h]; simp
theorem partB_all {stars : Bool} {s : ByteArray} (h0 : (stars && (s.toList == (⟨#[42, 42]⟩ : ByteArray).toList)) = false) (h : (decide ((s.size : Int) < 1) || (decide ((8 : Int) < s.size) || isDigit (byteAt s.data.toList 0))) = false) (h1 : (List.range s.size).all (okAt stars s.data.toList) = true) : partB stars s = true := by
  rw [partB, h0, Bool.false_or, h1]
  rw [Bool.or_eq_false_iff, Bool.or_eq_false_iff, decide_eq_false_iff_not, decide_eq_false_iff_not] at h
  rw [decide_eq_true (by omega : 1 ≤ s.size), decide_eq_true (by omega : s.size ≤ 8), h.2.2]; rfl
theorem partB_bad {stars : Bool} {s : ByteArray} {k : Nat} (h0 : (stars && (s.toList == (⟨#[42, 42]⟩ : ByteArray).toList)) = false) (hk : k < s.size) (h : okAt stars s.data.toList k = false) : partB stars s = false := by
  rw [partB, h0, range_bad hk h]; simp

set_option maxRecDepth 100000 in
theorem refPart_any (s : ByteArray) (stars : Bool) (w : World) (hsz : s.size < 4294967281) :
    Calls Tryz.prog 236 #[.string s, .bool stars] w (RetV w (.bool (partB stars s))) := by
  refine enter Tryz.func236 rfl Tryz.ntmps236 rfl ?_
  refine WC.seq ?_
  refine WC.region ?_
  refine WL.p rfl rfl rfl (P.assign rfl) ?_
  refine WL.nil_ ?_
  refine End.seq ?_
  refine WC.seq ?_
  refine WC.cutD (σ := Bool) (fun z1 => [(11, .bool z1)]) (fun z1 => []) (fun z1 => z1 = (stars && (s.toList == (⟨#[42, 42]⟩ : ByteArray).toList))) ?_ (fun z1 hz1 => ?_)
  ·
    refine WC.region ?_
    refine WL.p rfl rfl rfl (P.move rfl) ?_
    refine WL.p rfl rfl rfl (P.move rfl) ?_
    refine WL.split 8 rfl (fun hs8 => ?_) (fun hs8 => ?_)
    ·
      refine WL.p rfl rfl rfl (P.move rfl) ?_
      refine WL.p rfl rfl rfl (P.cmps rfl rfl rfl) ?_
      refine WL.p rfl rfl rfl (P.pickT rfl rfl) ?_
      refine WL.nil_ ?_
      refine End.atD _ ?_ rfl (Env.sub_cons rfl (Env.sub_nil)) rfl [] rfl rfl
      · simp [okAt, byteAt, *]
    ·
      refine WL.off rfl rfl ?_
      refine WL.off rfl rfl ?_
      refine WL.p rfl rfl rfl (P.pickF rfl rfl) ?_
      refine WL.nil_ ?_
      refine End.atD _ ?_ rfl (Env.sub_cons rfl (Env.sub_nil)) rfl [] rfl rfl
      · simp [okAt, byteAt, *]
  ·
    refine WC.cond rfl (fun hc11 => ?_) (fun hc11 => ?_)
    ·
      refine WC.seq ?_
      refine WC.region ?_
      refine WL.p rfl rfl rfl (P.assign rfl) ?_
      refine WL.nil_ ?_
      refine End.seq ?_
      refine WC.ret ?_
      refine End.thenR ?_
      refine End.ret1 rfl rfl ?_
      exact fun w' hs' => RetV.of (by rw [partB, ← hz1, hc11]; rfl) hs'
    ·
      refine WC.skip ?_
      refine End.seq ?_
      refine WC.seq ?_
      refine WC.cutD (σ := Bool) (fun z3 => [(24, .bool z3)]) (fun z3 => []) (fun z3 => z3 = (decide ((s.size : Int) < 1) || (decide ((8 : Int) < s.size) || isDigit (byteAt s.data.toList 0)))) ?_ (fun z3 hz3 => ?_)
      ·
        refine WC.region ?_
        refine WL.p rfl rfl rfl (P.move rfl) ?_
        refine WL.p rfl rfl rfl (P.lenS Tryz.underlying9 rfl) ?_
        refine WL.p rfl rfl rfl (P.cmp rfl rfl rfl) ?_
        refine WL.p rfl rfl rfl (P.move rfl) ?_
        refine WL.split 15 rfl (fun hs15 => ?_) (fun hs15 => ?_)
        ·
          refine WL.off rfl rfl ?_
          refine WL.off rfl rfl ?_
          refine WL.off rfl rfl ?_
          refine WL.p rfl rfl rfl (P.pickT rfl rfl) ?_
          refine WL.p rfl rfl rfl (P.move rfl) ?_
          refine WL.off rfl rfl ?_
          refine WL.off rfl rfl ?_
          refine WL.off rfl rfl ?_
          refine WL.p rfl rfl rfl (P.pickT rfl rfl) ?_
          refine WL.nil_ ?_
          refine End.atD _ ?_ rfl (Env.sub_cons rfl (Env.sub_nil)) rfl [] rfl rfl
          · simp [okAt, byteAt, *]
        ·
          refine WL.p rfl rfl rfl (P.move rfl) ?_
          refine WL.p rfl rfl rfl (P.lenS Tryz.underlying9 rfl) ?_
          refine WL.p rfl rfl rfl (P.cmp rfl rfl rfl) ?_
          refine WL.p rfl rfl rfl (P.pickF rfl rfl) ?_
          refine WL.p rfl rfl rfl (P.move rfl) ?_
          refine WL.split 20 rfl (fun hs20 => ?_) (fun hs20 => ?_)
          ·
            refine WL.off rfl rfl ?_
            refine WL.off rfl rfl ?_
            refine WL.off rfl rfl ?_
            refine WL.p rfl rfl rfl (P.pickT rfl rfl) ?_
            refine WL.nil_ ?_
            refine End.atD _ ?_ rfl (Env.sub_cons rfl (Env.sub_nil)) rfl [] rfl rfl
            · simp [okAt, byteAt, *]
          ·
            refine WL.p rfl rfl rfl (P.move rfl) ?_
            refine WL.p rfl rfl rfl (P.byte Tryz.underlying9 rfl rfl (by omega) (by have := of_decide_eq_false hs15; omega)) ?_
            refine WL.callv (ent_of Tryz.func273 rfl rfl) rfl rfl rfl (fun w hs => refDigit_any _ w) ?_
            refine WL.p rfl rfl rfl (P.pickF rfl rfl) ?_
            refine WL.nil_ ?_
            refine End.atD _ ?_ rfl (Env.sub_cons rfl (Env.sub_nil)) rfl [] rfl rfl
            · simp [okAt, byteAt, *]
      ·
        refine WC.cond rfl (fun hc24 => ?_) (fun hc24 => ?_)
        ·
          refine WC.seq ?_
          refine WC.region ?_
          refine WL.p rfl rfl rfl (P.assign rfl) ?_
          refine WL.nil_ ?_
          refine End.seq ?_
          refine WC.ret ?_
          refine End.thenR ?_
          refine End.ret1 rfl rfl ?_
          rw [hc24] at hz3
          exact fun w' hs' => RetV.of (by rw [partB_short (hz1 ▸ hc11) hz3.symm]) hs'
        ·
          refine WC.skip ?_
          refine End.seq ?_
          refine WC.seq ?_
          refine WC.seq ?_
          refine WC.region ?_
          refine WL.p rfl rfl rfl (P.assign rfl) ?_
          refine WL.nil_ ?_
          refine End.seq ?_
          refine WC.block ?_
          refine WC.loopD (σ := Nat) (fun k => [(5, .int .i64 (k : Nat))]) (fun k => []) (fun k => k ≤ s.size ∧ (List.range k).all (okAt stars s.data.toList) = true) (fun k => s.size - k) 0 ⟨Nat.zero_le _, rfl⟩ (Env.sub_cons rfl (Env.sub_nil)) [] rfl rfl ?_
          rintro k ⟨hk, ht⟩
          refine WC.seq ?_
          refine WC.seq ?_
          refine WC.region ?_
          refine WL.p rfl rfl rfl (P.move rfl) ?_
          refine WL.p rfl rfl rfl (P.move rfl) ?_
          refine WL.p rfl rfl rfl (P.lenS Tryz.underlying9 rfl) ?_
          refine WL.p rfl rfl rfl (P.cmp rfl rfl rfl) ?_
          refine WL.nil_ ?_
          refine End.seq ?_
          refine WC.cond rfl (fun hc28 => ?_) (fun hc28 => ?_)
          ·
            have hk2 : k < s.size := by have := of_decide_eq_true hc28; omega
            refine WC.skip ?_
            refine End.seq ?_
            refine WC.seq ?_
            refine WC.block ?_
            refine WC.cutD (σ := Bool) (fun z8 => [(6, .bool z8)]) (fun z8 => []) (fun z8 => z8 = (stars && (byteAt s.data.toList k == 42))) ?_ (fun z8 hz8 => ?_)
            ·
              refine WC.region ?_
              refine WL.p rfl rfl rfl (P.move rfl) ?_
              refine WL.p rfl rfl rfl (P.move rfl) ?_
              refine WL.split 32 rfl (fun hs32 => ?_) (fun hs32 => ?_)
              ·
                refine WL.p rfl rfl rfl (P.move rfl) ?_
                refine WL.p rfl rfl rfl (P.move rfl) ?_
                refine WL.p rfl rfl rfl (P.byte Tryz.underlying9 rfl rfl (by omega) (by omega)) ?_
                refine WL.p rfl rfl rfl (P.cmp rfl rfl rfl) ?_
                refine WL.p rfl rfl rfl (P.pickT rfl rfl) ?_
                refine WL.p rfl rfl rfl (P.assign rfl) ?_
                refine WL.nil_ ?_
                refine End.atD _ ?_ rfl (Env.sub_cons rfl (Env.sub_nil)) rfl [] rfl rfl
                · simp [okAt, byteAt, *]
              ·
                refine WL.off rfl rfl ?_
                refine WL.off rfl rfl ?_
                refine WL.off rfl rfl ?_
                refine WL.off rfl rfl ?_
                refine WL.p rfl rfl rfl (P.pickF rfl rfl) ?_
                refine WL.p rfl rfl rfl (P.assign rfl) ?_
                refine WL.nil_ ?_
                refine End.atD _ ?_ rfl (Env.sub_cons rfl (Env.sub_nil)) rfl [] rfl rfl
                · simp [okAt, byteAt, *]
            ·
              refine WC.cutD (σ := Bool) (fun z9 => [(67, .bool z9)]) (fun z9 => []) (fun z9 => z9 = !okAt stars s.data.toList k) ?_ (fun z9 hz9 => ?_)
              ·
                refine WC.region ?_
                refine WL.p rfl rfl rfl (P.move rfl) ?_
                refine WL.p rfl rfl rfl (P.move rfl) ?_
                refine WL.p rfl rfl rfl (P.byte Tryz.underlying9 rfl rfl (by omega) (by omega)) ?_
                refine WL.callv (ent_of Tryz.func283 rfl rfl) rfl rfl rfl (fun w hs => refLetter_any _ w) ?_
                refine WL.p rfl rfl rfl (P.not_ rfl) ?_
                refine WL.p rfl rfl rfl (P.move rfl) ?_
                refine WL.split 43 rfl (fun hs43 => ?_) (fun hs43 => ?_)
                ·
                  refine WL.p rfl rfl rfl (P.move rfl) ?_
                  refine WL.p rfl rfl rfl (P.move rfl) ?_
                  refine WL.p rfl rfl rfl (P.byte Tryz.underlying9 rfl rfl (by omega) (by omega)) ?_
                  refine WL.callv (ent_of Tryz.func273 rfl rfl) rfl rfl rfl (fun w hs => refDigit_any _ w) ?_
                  refine WL.p rfl rfl rfl (P.not_ rfl) ?_
                  refine WL.p rfl rfl rfl (P.pickT rfl rfl) ?_
                  refine WL.p rfl rfl rfl (P.move rfl) ?_
                  refine WL.split 50 rfl (fun hs50 => ?_) (fun hs50 => ?_)
                  ·
                    refine WL.p rfl rfl rfl (P.move rfl) ?_
                    refine WL.p rfl rfl rfl (P.not_ rfl) ?_
                    refine WL.p rfl rfl rfl (P.pickT rfl rfl) ?_
                    refine WL.p rfl rfl rfl (P.move rfl) ?_
                    refine WL.split 54 rfl (fun hs54 => ?_) (fun hs54 => ?_)
                    ·
                      refine WL.off rfl rfl ?_
                      refine WL.off rfl rfl ?_
                      refine WL.offU rfl rfl ?_
                      refine WL.offU rfl rfl ?_
                      refine WL.off rfl rfl ?_
                      refine WL.off rfl rfl ?_
                      refine WL.offU rfl rfl ?_
                      refine WL.offU rfl rfl ?_
                      refine WL.offU rfl rfl ?_
                      refine WL.offU rfl rfl ?_
                      refine WL.offU rfl rfl ?_
                      refine WL.off rfl rfl ?_
                      refine WL.p rfl rfl rfl (P.pickT rfl rfl) ?_
                      refine WL.nil_ ?_
                      refine End.atD _ ?_ rfl (Env.sub_cons rfl (Env.sub_nil)) rfl [] rfl rfl
                      · rw [okAt, ← hz8]; clear hz1 hz8 ht hk hc28 hk2 hc11 hc24 hz3 hsz; generalize isUpper (byteAt s.data.toList k) = a at *; generalize isDigit (byteAt s.data.toList k) = b at *; generalize decide ((0 : Int) < (k : Nat)) = c at *; generalize ((((s.data.toList[((k : Int) - 1).toNat]?).getD 0).toNat : Int) == 42) = d at *; cases a <;> cases b <;> cases c <;> cases d <;> cases z8 <;> first | rfl | (simp at *; done)
                    ·
                      refine WL.p rfl rfl rfl (P.move rfl) ?_
                      refine WL.p rfl rfl rfl (P.move rfl) ?_
                      refine WL.split 56 rfl (fun hs56 => ?_) (fun hs56 => ?_)
                      ·
                        refine WL.p rfl rfl rfl (P.move rfl) ?_
                        refine WL.p rfl rfl rfl (P.cmp rfl rfl rfl) ?_
                        refine WL.p rfl rfl rfl (P.pickT rfl rfl) ?_
                        refine WL.p rfl rfl rfl (P.move rfl) ?_
                        refine WL.split 60 rfl (fun hs60 => ?_) (fun hs60 => ?_)
                        ·
                          refine WL.p rfl rfl rfl (P.move rfl) ?_
                          refine WL.p rfl rfl rfl (P.move rfl) ?_
                          refine WL.p rfl rfl rfl (P.ari64 rfl rfl rfl (by have := of_decide_eq_true hs60; omega)) ?_
                          refine WL.p rfl rfl rfl (P.byte Tryz.underlying9 rfl rfl (by have := of_decide_eq_true hs60; omega) (by omega)) ?_
                          refine WL.p rfl rfl rfl (P.cmp rfl rfl rfl) ?_
                          refine WL.p rfl rfl rfl (P.pickT rfl rfl) ?_
                          refine WL.p rfl rfl rfl (P.pickF rfl rfl) ?_
                          refine WL.nil_ ?_
                          refine End.atD _ ?_ rfl (Env.sub_cons rfl (Env.sub_nil)) rfl [] rfl rfl
                          · rw [okAt, ← hz8]; clear hz1 hz8 ht hk hc28 hk2 hc11 hc24 hz3 hsz; generalize isUpper (byteAt s.data.toList k) = a at *; generalize isDigit (byteAt s.data.toList k) = b at *; generalize decide ((0 : Int) < (k : Nat)) = c at *; generalize ((((s.data.toList[((k : Int) - 1).toNat]?).getD 0).toNat : Int) == 42) = d at *; cases a <;> cases b <;> cases c <;> cases d <;> cases z8 <;> first | rfl | (simp at *; done)
                        ·
                          refine WL.off rfl rfl ?_
                          refine WL.off rfl rfl ?_
                          refine WL.off rfl rfl ?_
                          refine WL.off rfl rfl ?_
                          refine WL.off rfl rfl ?_
                          refine WL.p rfl rfl rfl (P.pickF rfl rfl) ?_
                          refine WL.p rfl rfl rfl (P.pickF rfl rfl) ?_
                          refine WL.nil_ ?_
                          refine End.atD _ ?_ rfl (Env.sub_cons rfl (Env.sub_nil)) rfl [] rfl rfl
                          · rw [okAt, ← hz8]; clear hz1 hz8 ht hk hc28 hk2 hc11 hc24 hz3 hsz; generalize isUpper (byteAt s.data.toList k) = a at *; generalize isDigit (byteAt s.data.toList k) = b at *; generalize decide ((0 : Int) < (k : Nat)) = c at *; generalize ((((s.data.toList[((k : Int) - 1).toNat]?).getD 0).toNat : Int) == 42) = d at *; cases a <;> cases b <;> cases c <;> cases d <;> cases z8 <;> first | rfl | (simp at *; done)
                      ·
                        refine WL.off rfl rfl ?_
                        refine WL.off rfl rfl ?_
                        refine WL.p rfl rfl rfl (P.pickF rfl rfl) ?_
                        refine WL.p rfl rfl rfl (P.move rfl) ?_
                        refine WL.off rfl rfl ?_
                        refine WL.off rfl rfl ?_
                        refine WL.off rfl rfl ?_
                        refine WL.off rfl rfl ?_
                        refine WL.off rfl rfl ?_
                        refine WL.p rfl rfl rfl (P.pickF rfl rfl) ?_
                        refine WL.p rfl rfl rfl (P.pickF rfl rfl) ?_
                        refine WL.nil_ ?_
                        refine End.atD _ ?_ rfl (Env.sub_cons rfl (Env.sub_nil)) rfl [] rfl rfl
                        · rw [okAt, ← hz8]; clear hz1 hz8 ht hk hc28 hk2 hc11 hc24 hz3 hsz; generalize isUpper (byteAt s.data.toList k) = a at *; generalize isDigit (byteAt s.data.toList k) = b at *; generalize decide ((0 : Int) < (k : Nat)) = c at *; generalize ((((s.data.toList[((k : Int) - 1).toNat]?).getD 0).toNat : Int) == 42) = d at *; cases a <;> cases b <;> cases c <;> cases d <;> cases z8 <;> first | rfl | (simp at *; done)
                  ·
                    refine WL.off rfl rfl ?_
                    refine WL.off rfl rfl ?_
                    refine WL.p rfl rfl rfl (P.pickF rfl rfl) ?_
                    refine WL.p rfl rfl rfl (P.move rfl) ?_
                    refine WL.p rfl rfl rfl (P.move rfl) ?_
                    refine WL.p rfl rfl rfl (P.move rfl) ?_
                    refine WL.split 56 rfl (fun hs56 => ?_) (fun hs56 => ?_)
                    ·
                      refine WL.p rfl rfl rfl (P.move rfl) ?_
                      refine WL.p rfl rfl rfl (P.cmp rfl rfl rfl) ?_
                      refine WL.p rfl rfl rfl (P.pickT rfl rfl) ?_
                      refine WL.p rfl rfl rfl (P.move rfl) ?_
                      refine WL.split 60 rfl (fun hs60 => ?_) (fun hs60 => ?_)
                      ·
                        refine WL.p rfl rfl rfl (P.move rfl) ?_
                        refine WL.p rfl rfl rfl (P.move rfl) ?_
                        refine WL.p rfl rfl rfl (P.ari64 rfl rfl rfl (by have := of_decide_eq_true hs60; omega)) ?_
                        refine WL.p rfl rfl rfl (P.byte Tryz.underlying9 rfl rfl (by have := of_decide_eq_true hs60; omega) (by omega)) ?_
                        refine WL.p rfl rfl rfl (P.cmp rfl rfl rfl) ?_
                        refine WL.p rfl rfl rfl (P.pickT rfl rfl) ?_
                        refine WL.p rfl rfl rfl (P.pickF rfl rfl) ?_
                        refine WL.nil_ ?_
                        refine End.atD _ ?_ rfl (Env.sub_cons rfl (Env.sub_nil)) rfl [] rfl rfl
                        · rw [okAt, ← hz8]; clear hz1 hz8 ht hk hc28 hk2 hc11 hc24 hz3 hsz; generalize isUpper (byteAt s.data.toList k) = a at *; generalize isDigit (byteAt s.data.toList k) = b at *; generalize decide ((0 : Int) < (k : Nat)) = c at *; generalize ((((s.data.toList[((k : Int) - 1).toNat]?).getD 0).toNat : Int) == 42) = d at *; cases a <;> cases b <;> cases c <;> cases d <;> cases z8 <;> first | rfl | (simp at *; done)
                      ·
                        refine WL.off rfl rfl ?_
                        refine WL.off rfl rfl ?_
                        refine WL.off rfl rfl ?_
                        refine WL.off rfl rfl ?_
                        refine WL.off rfl rfl ?_
                        refine WL.p rfl rfl rfl (P.pickF rfl rfl) ?_
                        refine WL.p rfl rfl rfl (P.pickF rfl rfl) ?_
                        refine WL.nil_ ?_
                        refine End.atD _ ?_ rfl (Env.sub_cons rfl (Env.sub_nil)) rfl [] rfl rfl
                        · rw [okAt, ← hz8]; clear hz1 hz8 ht hk hc28 hk2 hc11 hc24 hz3 hsz; generalize isUpper (byteAt s.data.toList k) = a at *; generalize isDigit (byteAt s.data.toList k) = b at *; generalize decide ((0 : Int) < (k : Nat)) = c at *; generalize ((((s.data.toList[((k : Int) - 1).toNat]?).getD 0).toNat : Int) == 42) = d at *; cases a <;> cases b <;> cases c <;> cases d <;> cases z8 <;> first | rfl | (simp at *; done)
                    ·
                      refine WL.off rfl rfl ?_
                      refine WL.off rfl rfl ?_
                      refine WL.p rfl rfl rfl (P.pickF rfl rfl) ?_
                      refine WL.p rfl rfl rfl (P.move rfl) ?_
                      refine WL.off rfl rfl ?_
                      refine WL.off rfl rfl ?_
                      refine WL.off rfl rfl ?_
                      refine WL.off rfl rfl ?_
                      refine WL.off rfl rfl ?_
                      refine WL.p rfl rfl rfl (P.pickF rfl rfl) ?_
                      refine WL.p rfl rfl rfl (P.pickF rfl rfl) ?_
                      refine WL.nil_ ?_
                      refine End.atD _ ?_ rfl (Env.sub_cons rfl (Env.sub_nil)) rfl [] rfl rfl
                      · rw [okAt, ← hz8]; clear hz1 hz8 ht hk hc28 hk2 hc11 hc24 hz3 hsz; generalize isUpper (byteAt s.data.toList k) = a at *; generalize isDigit (byteAt s.data.toList k) = b at *; generalize decide ((0 : Int) < (k : Nat)) = c at *; generalize ((((s.data.toList[((k : Int) - 1).toNat]?).getD 0).toNat : Int) == 42) = d at *; cases a <;> cases b <;> cases c <;> cases d <;> cases z8 <;> first | rfl | (simp at *; done)
                ·
                  refine WL.off rfl rfl ?_
                  refine WL.off rfl rfl ?_
                  refine WL.off rfl rfl ?_
                  refine WL.off rfl rfl ?_
                  refine WL.off rfl rfl ?_
                  refine WL.p rfl rfl rfl (P.pickF rfl rfl) ?_
                  refine WL.p rfl rfl rfl (P.move rfl) ?_
                  refine WL.off rfl rfl ?_
                  refine WL.off rfl rfl ?_
                  refine WL.p rfl rfl rfl (P.pickF rfl rfl) ?_
                  refine WL.p rfl rfl rfl (P.move rfl) ?_
                  refine WL.p rfl rfl rfl (P.move rfl) ?_
                  refine WL.p rfl rfl rfl (P.move rfl) ?_
                  refine WL.split 56 rfl (fun hs56 => ?_) (fun hs56 => ?_)
                  ·
                    refine WL.p rfl rfl rfl (P.move rfl) ?_
                    refine WL.p rfl rfl rfl (P.cmp rfl rfl rfl) ?_
                    refine WL.p rfl rfl rfl (P.pickT rfl rfl) ?_
                    refine WL.p rfl rfl rfl (P.move rfl) ?_
                    refine WL.split 60 rfl (fun hs60 => ?_) (fun hs60 => ?_)
                    ·
                      refine WL.p rfl rfl rfl (P.move rfl) ?_
                      refine WL.p rfl rfl rfl (P.move rfl) ?_
                      refine WL.p rfl rfl rfl (P.ari64 rfl rfl rfl (by have := of_decide_eq_true hs60; omega)) ?_
                      refine WL.p rfl rfl rfl (P.byte Tryz.underlying9 rfl rfl (by have := of_decide_eq_true hs60; omega) (by omega)) ?_
                      refine WL.p rfl rfl rfl (P.cmp rfl rfl rfl) ?_
                      refine WL.p rfl rfl rfl (P.pickT rfl rfl) ?_
                      refine WL.p rfl rfl rfl (P.pickF rfl rfl) ?_
                      refine WL.nil_ ?_
                      refine End.atD _ ?_ rfl (Env.sub_cons rfl (Env.sub_nil)) rfl [] rfl rfl
                      · rw [okAt, ← hz8]; clear hz1 hz8 ht hk hc28 hk2 hc11 hc24 hz3 hsz; generalize isUpper (byteAt s.data.toList k) = a at *; generalize isDigit (byteAt s.data.toList k) = b at *; generalize decide ((0 : Int) < (k : Nat)) = c at *; generalize ((((s.data.toList[((k : Int) - 1).toNat]?).getD 0).toNat : Int) == 42) = d at *; cases a <;> cases b <;> cases c <;> cases d <;> cases z8 <;> first | rfl | (simp at *; done)
                    ·
                      refine WL.off rfl rfl ?_
                      refine WL.off rfl rfl ?_
                      refine WL.off rfl rfl ?_
                      refine WL.off rfl rfl ?_
                      refine WL.off rfl rfl ?_
                      refine WL.p rfl rfl rfl (P.pickF rfl rfl) ?_
                      refine WL.p rfl rfl rfl (P.pickF rfl rfl) ?_
                      refine WL.nil_ ?_
                      refine End.atD _ ?_ rfl (Env.sub_cons rfl (Env.sub_nil)) rfl [] rfl rfl
                      · rw [okAt, ← hz8]; clear hz1 hz8 ht hk hc28 hk2 hc11 hc24 hz3 hsz; generalize isUpper (byteAt s.data.toList k) = a at *; generalize isDigit (byteAt s.data.toList k) = b at *; generalize decide ((0 : Int) < (k : Nat)) = c at *; generalize ((((s.data.toList[((k : Int) - 1).toNat]?).getD 0).toNat : Int) == 42) = d at *; cases a <;> cases b <;> cases c <;> cases d <;> cases z8 <;> first | rfl | (simp at *; done)
                  ·
                    refine WL.off rfl rfl ?_
                    refine WL.off rfl rfl ?_
                    refine WL.p rfl rfl rfl (P.pickF rfl rfl) ?_
                    refine WL.p rfl rfl rfl (P.move rfl) ?_
                    refine WL.off rfl rfl ?_
                    refine WL.off rfl rfl ?_
                    refine WL.off rfl rfl ?_
                    refine WL.off rfl rfl ?_
                    refine WL.off rfl rfl ?_
                    refine WL.p rfl rfl rfl (P.pickF rfl rfl) ?_
                    refine WL.p rfl rfl rfl (P.pickF rfl rfl) ?_
                    refine WL.nil_ ?_
                    refine End.atD _ ?_ rfl (Env.sub_cons rfl (Env.sub_nil)) rfl [] rfl rfl
                    · rw [okAt, ← hz8]; clear hz1 hz8 ht hk hc28 hk2 hc11 hc24 hz3 hsz; generalize isUpper (byteAt s.data.toList k) = a at *; generalize isDigit (byteAt s.data.toList k) = b at *; generalize decide ((0 : Int) < (k : Nat)) = c at *; generalize ((((s.data.toList[((k : Int) - 1).toNat]?).getD 0).toNat : Int) == 42) = d at *; cases a <;> cases b <;> cases c <;> cases d <;> cases z8 <;> first | rfl | (simp at *; done)
              ·
                refine WC.cond rfl (fun hc67 => ?_) (fun hc67 => ?_)
                ·
                  refine WC.seq ?_
                  refine WC.region ?_
                  refine WL.p rfl rfl rfl (P.assign rfl) ?_
                  refine WL.nil_ ?_
                  refine End.seq ?_
                  refine WC.ret ?_
                  refine End.blkR ?_
                  refine End.thenR ?_
                  refine End.thenR ?_
                  refine End.blkR ?_
                  refine End.thenR ?_
                  refine End.ret1 rfl rfl ?_
                  rw [hc67] at hz9
                  exact fun w' hs' => RetV.of (by rw [partB_bad (k := k) (hz1 ▸ hc11) hk2 (by simpa using hz9.symm)]) hs'
                ·
                  refine WC.skip ?_
                  refine End.blkN ?_
                  refine End.seq ?_
                  refine WC.region ?_
                  refine WL.p rfl rfl rfl (P.move rfl) ?_
                  refine WL.p rfl rfl rfl (P.ari64 rfl rfl rfl (by omega)) ?_
                  refine WL.p rfl rfl rfl (P.assign rfl) ?_
                  refine WL.nil_ ?_
                  refine End.againD (k + 1) ?_ ?_ rfl (Env.sub_cons rfl (Env.sub_nil)) rfl [] rfl rfl
                  · exact ⟨by omega, by rw [range_snoc, ht, Bool.true_and]; rw [hc67] at hz9; simpa using hz9.symm⟩
                  · omega
          ·
            have hk2 : k = s.size := by have := of_decide_eq_false hc28; omega
            refine WC.exit ?_
            refine End.thenX ?_
            refine End.thenX ?_
            refine End.blkX ?_
            refine End.seq ?_
            refine WC.seq ?_
            refine WC.region ?_
            refine WL.p rfl rfl rfl (P.assign rfl) ?_
            refine WL.nil_ ?_
            refine End.seq ?_
            refine WC.ret ?_
            refine End.ret1 rfl rfl ?_
            subst hk2
            exact fun w' hs' => RetV.of (by rw [partB_all (hz1 ▸ hc11) (hz3 ▸ hc24) ht]) hs'

/-- A name or a pattern. -/
def validB (stars : Bool) (s : ByteArray) : Bool := decide (1 ≤ s.size) && (decide (s.size ≤ 31) && (spB s.data.toList).all (partB stars))
theorem spB_all {s : ByteArray} {p : ByteArray → Bool} {k : Nat} {q : ByteArray} (hq : (spB s.data.toList)[k]? = some q) (h : p q = false) : (spB s.data.toList).all p = false := by
  rw [Bool.eq_false_iff]
  intro he
  rw [List.all_eq_true] at he
  rw [he q (List.mem_of_getElem? hq)] at h; cases h
theorem spB_lenle (s : ByteArray) : (spB s.data.toList).length ≤ s.size + 1 := by
  have := spB_len s.data.toList
  have e : s.size = s.data.toList.length := rfl
  simp only [spB, List.length_map]
  omega

set_option maxRecDepth 100000 in
theorem refValid1_any (s : ByteArray) (stars : Bool) (w : World) :
    Calls Tryz.prog 148 #[.string s, .bool stars] w (RetV w (.bool (validB stars s))) := by
  refine enter Tryz.func148 rfl Tryz.ntmps148 rfl ?_
  refine WC.seq ?_
  refine WC.region ?_
  refine WL.p rfl rfl rfl (P.assign rfl) ?_
  refine WL.nil_ ?_
  refine End.seq ?_
  refine WC.seq ?_
  refine WC.seq ?_
  refine WC.region ?_
  refine WL.p rfl rfl rfl (P.move rfl) ?_
  refine WL.p rfl rfl rfl (P.lenS Tryz.underlying9 rfl) ?_
  refine WL.p rfl rfl rfl (P.cmp rfl rfl rfl) ?_
  refine WL.p rfl rfl rfl (P.move rfl) ?_
  refine WL.split 10 rfl (fun hs10 => ?_) (fun hs10 => ?_)
  ·
    try simp only [decide_eq_true_eq, decide_eq_false_iff_not, beq_iff_eq, beq_eq_false_iff_ne, bne_iff_ne, bne_eq_false_iff_eq, Bool.not_eq_true', Bool.not_eq_false', ne_eq, Int.not_lt, Int.not_le] at hs10
    refine WL.off rfl rfl ?_
    refine WL.off rfl rfl ?_
    refine WL.off rfl rfl ?_
    refine WL.p rfl rfl rfl (P.pickT rfl rfl) ?_
    refine WL.nil_ ?_
    refine End.seq ?_
    refine WC.condT rfl ?_
    refine WC.seq ?_
    refine WC.region ?_
    refine WL.p rfl rfl rfl (P.assign rfl) ?_
    refine WL.nil_ ?_
    refine End.seq ?_
    refine WC.ret ?_
    refine End.thenR ?_
    refine End.ret1 rfl rfl ?_
    exact fun w' hs' => RetV.of (by rw [validB, decide_eq_false (by omega : ¬ 1 ≤ s.size)]; rfl) hs'
  ·
    try simp only [decide_eq_true_eq, decide_eq_false_iff_not, beq_iff_eq, beq_eq_false_iff_ne, bne_iff_ne, bne_eq_false_iff_eq, Bool.not_eq_true', Bool.not_eq_false', ne_eq, Int.not_lt, Int.not_le] at hs10
    refine WL.p rfl rfl rfl (P.move rfl) ?_
    refine WL.p rfl rfl rfl (P.lenS Tryz.underlying9 rfl) ?_
    refine WL.p rfl rfl rfl (P.cmp rfl rfl rfl) ?_
    refine WL.p rfl rfl rfl (P.pickF rfl rfl) ?_
    refine WL.nil_ ?_
    refine End.seq ?_
    refine WC.cond rfl (fun hc14 => ?_) (fun hc14 => ?_)
    ·
      try simp only [decide_eq_true_eq, decide_eq_false_iff_not, beq_iff_eq, beq_eq_false_iff_ne, bne_iff_ne, bne_eq_false_iff_eq, Bool.not_eq_true', Bool.not_eq_false', ne_eq, Int.not_lt, Int.not_le] at hc14
      refine WC.seq ?_
      refine WC.region ?_
      refine WL.p rfl rfl rfl (P.assign rfl) ?_
      refine WL.nil_ ?_
      refine End.seq ?_
      refine WC.ret ?_
      refine End.thenR ?_
      refine End.ret1 rfl rfl ?_
      exact fun w' hs' => RetV.of (by rw [validB, decide_eq_false (by omega : ¬ s.size ≤ 31)]; simp) hs'
    ·
      try simp only [decide_eq_true_eq, decide_eq_false_iff_not, beq_iff_eq, beq_eq_false_iff_ne, bne_iff_ne, bne_eq_false_iff_eq, Bool.not_eq_true', Bool.not_eq_false', ne_eq, Int.not_lt, Int.not_le] at hc14
      refine WC.skip ?_
      refine End.seq ?_
      refine WC.seq ?_
      refine WC.region ?_
      have hpl := spB_lenle s
      refine WL.p rfl rfl rfl (P.move rfl) ?_
      refine WL.callx (ent_of Tryz.func124 rfl rfl) rfl rfl rfl (fun w hs => refParts_any s w (by omega)) (fun p hp => ?_)
      refine WL.p rfl rfl rfl (P.assign rfl) ?_
      refine WL.nil_ ?_
      refine End.seq ?_
      refine WC.seq ?_
      refine WC.seq ?_
      refine WC.region ?_
      refine WL.p rfl rfl rfl (P.assign rfl) ?_
      refine WL.nil_ ?_
      refine End.seq ?_
      refine WC.block ?_
      refine WC.loopD (σ := Nat) (fun k => [(6, .int .i64 (k : Nat))]) (fun k => _) (fun k => k ≤ (spB s.data.toList).length ∧ ((spB s.data.toList).take k).all (partB stars) = true) (fun k => (spB s.data.toList).length - k) 0 ⟨Nat.zero_le _, rfl⟩ (Env.sub_cons rfl (Env.sub_nil)) [0] rfl rfl ?_
      rintro k ⟨hk, ht⟩
      refine WC.seq ?_
      refine WC.seq ?_
      refine WC.region ?_
      refine WL.p rfl rfl rfl (P.move rfl) ?_
      refine WL.p rfl rfl rfl (P.move rfl) ?_
      refine WL.p rfl rfl rfl (P.lenR Tryz.underlying48 rfl) ?_
      refine WL.p rfl rfl rfl (P.cmp rfl rfl rfl) ?_
      refine WL.nil_ ?_
      refine End.seq ?_
      refine WC.cond rfl (fun hc20 => ?_) (fun hc20 => ?_)
      ·
        try simp only [decide_eq_true_eq, decide_eq_false_iff_not, beq_iff_eq, beq_eq_false_iff_ne, bne_iff_ne, bne_eq_false_iff_eq, Bool.not_eq_true', Bool.not_eq_false', ne_eq, Int.not_lt, Int.not_le] at hc20
        obtain ⟨q, hq⟩ := get_of_lt (xs := spB s.data.toList) (k := k) (by omega)
        refine WC.skip ?_
        refine End.seq ?_
        refine WC.seq ?_
        refine WC.block ?_
        refine WC.seq ?_
        refine WC.region ?_
        refine WL.p rfl rfl rfl (P.move rfl) ?_
        refine WL.p rfl rfl rfl (P.move rfl) ?_
        refine WL.p rfl rfl rfl (P.elemAddr Tryz.underlying48 Tryz.sizeOf9 rfl rfl (by omega) (by omega)) ?_
        refine WL.p rfl rfl rfl (P.loadR 0 Tryz.isAgg9 rfl rfl (off := 0 + (k : Int).toNat * 1) (by simpa using strs_get hq)) ?_
        refine WL.p rfl rfl rfl (P.move rfl) ?_
        refine WL.callv (ent_of Tryz.func236 rfl rfl) rfl rfl rfl (fun w hs => refPart_any q stars w (by have := spB_el (List.mem_of_getElem? hq); have e : s.size = s.data.toList.length := rfl; omega)) ?_
        refine WL.p rfl rfl rfl (P.not_ rfl) ?_
        refine WL.nil_ ?_
        refine End.seq ?_
        refine WC.cond rfl (fun hc29 => ?_) (fun hc29 => ?_)
        ·
          try simp only [decide_eq_true_eq, decide_eq_false_iff_not, beq_iff_eq, beq_eq_false_iff_ne, bne_iff_ne, bne_eq_false_iff_eq, Bool.not_eq_true', Bool.not_eq_false', ne_eq, Int.not_lt, Int.not_le] at hc29
          refine WC.seq ?_
          refine WC.region ?_
          refine WL.p rfl rfl rfl (P.assign rfl) ?_
          refine WL.nil_ ?_
          refine End.seq ?_
          refine WC.ret ?_
          refine End.blkR ?_
          refine End.thenR ?_
          refine End.thenR ?_
          refine End.blkR ?_
          refine End.thenR ?_
          refine End.ret1 rfl rfl ?_
          exact fun w' hs' => RetV.of (by rw [validB, spB_all hq (by simpa using hc29)]; simp) hs'
        ·
          try simp only [decide_eq_true_eq, decide_eq_false_iff_not, beq_iff_eq, beq_eq_false_iff_ne, bne_iff_ne, bne_eq_false_iff_eq, Bool.not_eq_true', Bool.not_eq_false', ne_eq, Int.not_lt, Int.not_le] at hc29
          refine WC.skip ?_
          refine End.blkN ?_
          refine End.seq ?_
          refine WC.region ?_
          refine WL.p rfl rfl rfl (P.move rfl) ?_
          refine WL.p rfl rfl rfl (P.ari64 rfl rfl rfl (by omega)) ?_
          refine WL.p rfl rfl rfl (P.assign rfl) ?_
          refine WL.nil_ ?_
          refine End.againD (k + 1) ?_ ?_ rfl (Env.sub_cons rfl (Env.sub_nil)) rfl [0] rfl rfl
          · exact ⟨by omega, by rw [all_snoc hq, ht, Bool.true_and]; simpa using hc29⟩
          · omega
      ·
        try simp only [decide_eq_true_eq, decide_eq_false_iff_not, beq_iff_eq, beq_eq_false_iff_ne, bne_iff_ne, bne_eq_false_iff_eq, Bool.not_eq_true', Bool.not_eq_false', ne_eq, Int.not_lt, Int.not_le] at hc20
        refine WC.exit ?_
        refine End.thenX ?_
        refine End.thenX ?_
        refine End.blkX ?_
        refine End.seq ?_
        refine WC.seq ?_
        refine WC.region ?_
        refine WL.p rfl rfl rfl (P.assign rfl) ?_
        refine WL.nil_ ?_
        refine End.seq ?_
        refine WC.ret ?_
        refine End.ret1 rfl rfl ?_
        have e : k = (spB s.data.toList).length := by omega
        rw [e, List.take_length] at ht
        exact fun w' hs' => RetV.of (by rw [validB, ht, decide_eq_true (by omega : 1 ≤ s.size), decide_eq_true (by omega : s.size ≤ 31)]; rfl) hs'

set_option maxRecDepth 100000 in
theorem refValidPattern_any (s : ByteArray) (w : World) :
    Calls Tryz.prog 59 #[.string s] w (RetV w (.bool (validB true s))) := by
  refine enter Tryz.func59 rfl Tryz.ntmps59 rfl ?_
  refine WC.seq ?_
  refine WC.region ?_
  refine WL.p rfl rfl rfl (P.assign rfl) ?_
  refine WL.nil_ ?_
  refine End.seq ?_
  refine WC.seq ?_
  refine WC.region ?_
  refine WL.p rfl rfl rfl (P.move rfl) ?_
  refine WL.callv (ent_of Tryz.func148 rfl rfl) rfl rfl rfl (fun w hs => refValid1_any s true w) ?_
  refine WL.p rfl rfl rfl (P.assign rfl) ?_
  refine WL.nil_ ?_
  refine End.seq ?_
  refine WC.ret ?_
  refine End.ret1 rfl rfl ?_
  exact fun w' hs' => RetV.of rfl hs'

def rgroupB (s : ByteArray) : Bool := validB false s && (decide (s.size ≤ 22) && !((spB s.data.toList).any isGenQ))
/-- Texts with full stops between them. -/
def joinB : List ByteArray → ByteArray
  | [] => ⟨#[]⟩
  | x :: r => r.foldl (fun s y => s ++ dot ++ y) x
def sizes (l : List ByteArray) : Nat := (l.map (fun x => x.size + 1)).sum
theorem mkB_size (l : List UInt8) : (mkB l).size = l.length := by
  show l.toArray.size = _
  simp
/-- The group and the number of a generation's name. -/
def rsplitB (s : ByteArray) : ByteArray × Int × Bool :=
  if genNum ((spB s.data.toList).getLast?.getD ⟨#[]⟩).data.toList = 0 ∨ rgroupB (joinB ((spB s.data.toList).take ((spB s.data.toList).length - 1))) = false then (⟨#[]⟩, 0, false) else (joinB ((spB s.data.toList).take ((spB s.data.toList).length - 1)), genNum ((spB s.data.toList).getLast?.getD ⟨#[]⟩).data.toList, true)
def qualR (s : ByteArray) : Bool := validB false s && decide ((spB s.data.toList).length = 1)

def ownerR (s : ByteArray) : Bool := (s.toList == (⟨#[]⟩ : ByteArray).toList) || qualR s

end Go.Proofs.YtlkkiimmangplaaGreatDoor

/- The reference's generations. -/
namespace Go.Proofs.YtlkkiimmangplaaGreatDoor
open Go.RowKit
set_option linter.unusedVariables false
set_option linter.unusedSimpArgs false

/-- A group is valid, as the reference says it. -/
def rgroupV (e : E) : Bool := decide (e = e.uses) && (rgroupB e.name && (decide (1 ≤ e.limit) && (decide (e.limit ≤ 63) && (decide (0 ≤ e.last) && (decide (e.last ≤ 9999) && ownerR e.owner)))))

def rgenV (e : E) (xs : List Int) : Bool := decide (e.kind = 1) && (rgroupV e && fits xs e.last)
/-- How many go when one comes. -/
def cntG (limit : Int) (empty : Bool) (n : Nat) : Int := if 0 < (n : Int) + 1 - limit ∧ empty = true then (n : Int) else (n : Int) + 1 - limit
def mx0 (k : Int) : Nat := (if k > 0 then k else 0).toNat
/-- RollIn, as the reference does it: what goes. -/
def rin (e : E) (xs : List Int) (n : Int) : Except Int (List Int) :=
  if rgenV e xs = false then .error 1 else if n < 1 ∨ 9999 < n then .error 2 else if n ≤ e.last then .error 9 else .ok (xs.take (mx0 (cntG e.limit e.empty xs.length)))
/-- What RollIn of the reference hands back. -/
def RinR (w : World) (e : E) (va vg : Value) (n : Int) (r : Except Int (List Int)) : Ending → World → Prop := match r with
  | .error c => RetV w (.tuple #[.agg (E.zero.cells vnil vnil), vnil, .int .i64 c])
  | .ok gone => Ret w (fun _ : Nat × Nat => True) (fun p => .tuple #[.agg ({ e with last := n }.cells va vg), .slice (some ⟨p.1, 0, none⟩) gone.length p.2, .int .i64 0]) (fun p => [.row 3 1 (.slice (some ⟨p.1, 0, none⟩) gone.length p.2) gone.length (ints gone)])
end Go.Proofs.YtlkkiimmangplaaGreatDoor

/- Names in plain words: the program's and the reference's say the same. -/
namespace Go.Proofs.YtlkkiimmangplaaGreatDoor
open Go.RowKit
set_option linter.unusedVariables false
set_option linter.unusedSimpArgs false

theorem idx_cases (c : UInt8) : ∀ l : List UInt8, (Lib.indexByte l c = -1 ∧ c ∉ l) ∨ ∃ a r, l = a ++ c :: r ∧ c ∉ a ∧ Lib.indexByte l c = a.length
  | [] => .inl ⟨rfl, by simp⟩
  | b :: l => by
    by_cases hb : b = c
    · subst hb
      exact .inr ⟨[], l, rfl, by simp, by simp [Lib.indexByte]⟩
    · have hbc : (b == c) = false := by simpa using hb
      rcases idx_cases c l with ⟨h1, h2⟩ | ⟨a, r, rfl, h2, h3⟩
      · refine .inl ⟨by simp [Lib.indexByte, hbc, h1], by simp [h2]; exact fun e => hb e.symm⟩
      · refine .inr ⟨b :: a, r, rfl, by simp [h2]; exact fun e => hb e.symm, ?_⟩
        have hne : ¬ (Lib.indexByte (a ++ c :: r) c == -1) = true := by rw [h3]; simp
        unfold Lib.indexByte
        rw [hbc, if_neg (by simp), if_neg hne, h3]
        simp
theorem sp_dotless : ∀ l : List UInt8, (46 : UInt8) ∉ l → sp l = [l]
  | [], _ => rfl
  | c :: r, h => by
    have hc : ¬ c = 46 := fun e => h (by simp [e])
    rw [sp, if_neg hc, sp_dotless r (fun h' => h (by simp [h']))]
theorem sp_at : ∀ (a r : List UInt8), (46 : UInt8) ∉ a → sp (a ++ 46 :: r) = a :: sp r
  | [], r, _ => by simp [sp]
  | c :: a, r, h => by
    have hc : ¬ c = 46 := fun e => h (by simp [e])
    rw [List.cons_append, sp, if_neg hc, sp_at a r (fun h' => h (by simp [h']))]
theorem indexB_dot (s : ByteArray) : Lib.indexB s dot = Lib.indexByte s.data.toList 46 := by
  have h := Go.Lib.one s dot rfl
  exact h
theorem mkB_data (s : ByteArray) : mkB s.data.toList = s := by
  apply toList_inj.1
  rw [ByteArray.toList_eq]
theorem extract_data (s : ByteArray) (a b : Nat) : (s.extract a b).data.toList = (s.data.toList.take b).drop a := by
  rw [← extract_bytes, ByteArray.toList_eq]
theorem eq_of_data {s t : ByteArray} (h : s.data.toList = t.data.toList) : s = t := by
  apply toList_inj.1
  rw [ByteArray.toList_eq, ByteArray.toList_eq, h]
theorem parts_sp : ∀ (k : Nat) (s : ByteArray), s.size ≤ k → parts s = spB s.data.toList
  | k, s, hk => by
    rcases idx_cases 46 s.data.toList with ⟨h1, h2⟩ | ⟨a, r, h1, h2, h3⟩
    · have hi : Lib.indexB s dot = -1 := by rw [indexB_dot, h1]
      unfold parts
      rw [Lib.countB_miss s dot hi, Lib.splitB_zero, spB, sp_dotless _ h2]
      simp [mkB_data]
    · have hi : Lib.indexB s dot = a.length := by rw [indexB_dot, h3]
      have hs : s.size = a.length + (1 + r.length) := by
        have : s.size = s.data.toList.length := rfl
        rw [this, h1]; simp; omega
      have e1 : s.extract 0 (a.length + 0) = mkB a := by
        apply eq_of_data
        rw [extract_data, h1]
        simp
      have e2 : (s.extract (a.length + dot.size) s.size).data.toList = r := by
        rw [extract_data, List.take_of_length_le (by rw [hs, h1]; simp; omega), h1]
        rw [show dot.size = 1 from rfl, ← List.drop_drop, List.drop_append_of_le_length (Nat.le_refl _)]
        simp
      have hlen : (s.extract (a.length + dot.size) s.size).size = r.length := by
        have : (s.extract (a.length + dot.size) s.size).size = (s.extract (a.length + dot.size) s.size).data.toList.length := rfl
        rw [this, e2]
      cases k with
      | zero => omega
      | succ k =>
        have ih := parts_sp k (s.extract (a.length + dot.size) s.size) (by omega)
        unfold parts at ih ⊢
        rw [Lib.countB_hit s dot a.length (by decide) hi, Nat.add_comm, Lib.splitB_hit _ _ _ _ _ hi, ih, e2, e1, h1]
        unfold spB
        rw [sp_at a r h2]
        rfl
theorem parts_eq (s : ByteArray) : parts s = spB s.data.toList := parts_sp s.size s (Nat.le_refl _)
/-- A part without stars, both ways. -/
theorem part_eq (s : ByteArray) : partB false s = nameQ s.data.toList := by
  have hs : s.size = s.data.toList.length := rfl
  unfold partB nameQ qualB
  rw [Bool.false_and, Bool.false_or, hs]
  generalize s.data.toList = l
  by_cases h1 : 1 ≤ l.length
  · rw [decide_eq_true h1, Bool.true_and, Bool.true_and]
    congr 1
    have hrange : (List.range l.length).all (okAt false l) = l.all (fun c => isUpper (c.toNat : Int) || isDigit (c.toNat : Int)) := by
      rw [Bool.eq_iff_iff, List.all_eq_true, List.all_eq_true]
      constructor
      · intro h c hc
        obtain ⟨k, hk, rfl⟩ := List.mem_iff_getElem.1 hc
        have := h k (List.mem_range.2 hk)
        simp [okAt, byteAt, List.getElem?_eq_getElem hk] at this
        simpa using this
      · intro h k hk
        have hk := List.mem_range.1 hk
        have := h l[k] (List.getElem_mem hk)
        simp [okAt, byteAt, List.getElem?_eq_getElem hk]
        simpa using this
    rw [hrange]
    cases l with
    | nil => simp at h1
    | cons c r =>
      simp only [List.all_cons, List.drop_succ_cons, List.drop_zero, byteAt]
      show (!isDigit (c.toNat : Int) && ((isUpper (c.toNat : Int) || isDigit (c.toNat : Int)) && _)) = (isUpper (c.toNat : Int) && _)
      have hx : isUpper (c.toNat : Int) = true → isDigit (c.toNat : Int) = false := by
        unfold isUpper isDigit
        intro h
        simp at h ⊢
        omega
      cases hu : isUpper (c.toNat : Int) with
      | true => rw [hx hu]; simp
      | false => cases isDigit (c.toNat : Int) <;> simp
  · rw [decide_eq_false h1]; rfl
theorem name_eq (s : ByteArray) : nameB s = validB false s := by
  unfold nameB allB validB
  rw [parts_eq]
  have e : decide ((s.size : Int) ≤ 31) = decide (s.size ≤ 31) := by rw [Bool.eq_iff_iff, decide_eq_true_eq, decide_eq_true_eq]; omega
  have e2 : (fun q : ByteArray => nameQ q.data.toList) = partB false := by funext q; rw [part_eq]
  rw [e, e2]
theorem dotless_len {l : List UInt8} : (sp l).length = 1 ↔ (46 : UInt8) ∉ l := by
  constructor
  · intro h hm
    rcases idx_cases 46 l with ⟨_, h2⟩ | ⟨a, r, rfl, h2, _⟩
    · exact h2 hm
    · rw [sp_at a r h2] at h
      have := List.length_pos_iff.2 (sp_ne r)
      simp at h
      exact sp_ne r h
  · intro h
    rw [sp_dotless l h]; rfl
theorem word_eq (s : ByteArray) : wordB s = qualR s := by
  unfold wordB qualR
  rw [name_eq]
  congr 1
  have h : (0 ≤ Lib.indexByte s.data.toList 46) ↔ ¬ (sp s.data.toList).length = 1 := by
    rcases idx_cases 46 s.data.toList with ⟨h1, h2⟩ | ⟨a, r, h1, h2, h3⟩
    · rw [h1]
      constructor
      · intro h; omega
      · intro h; exact absurd (dotless_len.2 h2) h
    · rw [h3]
      constructor
      · intro _ h
        exact dotless_len.1 h (by rw [h1]; simp)
      · intro _; omega
  have e : (spB s.data.toList).length = (sp s.data.toList).length := by simp [spB]
  rw [e]
  by_cases hq : (sp s.data.toList).length = 1
  · rw [decide_eq_false (fun h' => h.1 h' hq), decide_eq_true hq]; rfl
  · rw [decide_eq_true (h.2 hq), decide_eq_false hq]; rfl
end Go.Proofs.YtlkkiimmangplaaGreatDoor

/- What is read is what was written, at each kind, with anything behind it. -/
namespace Go.Proofs.YtlkkiimmangplaaGreatDoor
open Go.RowKit
set_option linter.unusedVariables false
set_option linter.unusedSimpArgs false
theorem emp_app (a : ByteArray) : bempty ++ a = a := by rw [show (bempty : ByteArray) = ByteArray.empty from rfl, ByteArray.empty_append]
theorem app_emp (a : ByteArray) : a ++ bempty = a := by rw [show (bempty : ByteArray) = ByteArray.empty from rfl, ByteArray.append_empty]
abbrev nB (x : Int) : ByteArray := strOfNums (encF 9 x)
abbrev tB (b : Bool) : ByteArray := strOfNums [if b then 1 else 0]
def nCat : List Int → ByteArray
  | [] => bempty
  | x :: r => nB x ++ nCat r
theorem numsOut_cat : ∀ (l : List Int) (out : ByteArray), numsOut out l = out ++ nCat l
  | [], out => (app_emp out).symm
  | x :: r, out => by
    show numsOut (out ++ nB x) r = out ++ (nB x ++ nCat r)
    rw [numsOut_cat r, ByteArray.append_assoc]
abbrev Num (x : Int) : Prop := 0 ≤ x ∧ x ≤ 1099511627776
theorem drop_at {α : Type} {l : List α} {k : Nat} {x : α} (h : l[k]? = some x) : l.drop k = x :: l.drop (k + 1) := by
  obtain ⟨hk, rfl⟩ := List.getElem?_eq_some_iff.1 h
  exact List.drop_eq_getElem_cons hk
theorem num_b {x : Int} (R : ByteArray) (hn : Num x) : Rd.num (nB x ++ R, 0) = (x, (R, 0)) := num_back x R hn.1 (by have := hn.2; omega)
theorem num_cat {l : List Int} {k : Nat} {x : Int} (R : ByteArray) (hx : l[k]? = some x) (hn : Num x) : Rd.num (nCat (l.drop k) ++ R, 0) = (x, (nCat (l.drop (k + 1)) ++ R, 0)) := by
  rw [drop_at hx]
  show Rd.num ((nB x ++ nCat (l.drop (k + 1))) ++ R, 0) = _
  rw [ByteArray.append_assoc, num_b _ hn]
theorem nX_back (l : List Int) (R : ByteArray) (hl : ∀ x ∈ l, Num x) : ∀ k, k ≤ l.length → nX k (nCat l ++ R, 0) = (nCat (l.drop k) ++ R, 0)
  | 0, _ => rfl
  | k + 1, h => by
    obtain ⟨x, hx⟩ := get_of_lt (show k < l.length by omega)
    rw [nX, nX_back l R hl k (by omega), num_cat R hx (hl x (List.mem_of_getElem? hx))]
theorem nX_num {l : List Int} {k : Nat} {x : Int} (R : ByteArray) (hl : ∀ x ∈ l, Num x) (hx : l[k]? = some x) : clampN (nX k (nCat l ++ R, 0)).num.1 = x := by
  have hk := (List.getElem?_eq_some_iff.1 hx).1
  have hn := hl x (List.mem_of_getElem? hx)
  rw [nX_back l R hl k (by omega), num_cat R hx hn, clampN_small hn.2]
theorem aRead_back (l : List Int) (R : ByteArray) (hl : ∀ x ∈ l, Num x) : ∀ k, k ≤ l.length → aRead (nCat l ++ R, 0) k = (l.take k, (nCat (l.drop k) ++ R, 0))
  | 0, _ => rfl
  | k + 1, h => by
    obtain ⟨x, hx⟩ := get_of_lt (show k < l.length by omega)
    have hb := hl x (List.mem_of_getElem? hx)
    rw [aRead, aRead_back l R hl k (by omega)]
    unfold aStep
    simp only
    rw [num_cat R hx hb, take_snoc hx, clampN_small hb.2]
def gB (g : Gr) : ByteArray := encText g.who ++ (tB g.group ++ nB g.level)
def gCat : List Gr → ByteArray
  | [] => bempty
  | g :: r => gB g ++ gCat r
theorem gsOut_cat : ∀ (l : List Gr) (out : ByteArray), gsOut out l = out ++ gCat l
  | [], out => (app_emp out).symm
  | g :: r, out => by
    show gsOut (gOut out g) r = out ++ (gB g ++ gCat r)
    rw [gsOut_cat r, gOut, gB]
    simp only [ByteArray.append_assoc]
theorem gStep_back {acc : List Gr} {l : List Gr} {k : Nat} {g : Gr} (R : ByteArray) (hx : l[k]? = some g) (hg : g.who.size ≤ 31 ∧ 0 ≤ g.level ∧ g.level ≤ 3) : gStep (acc, (gCat (l.drop k) ++ R, 0)) = (acc ++ [g], (gCat (l.drop (k + 1)) ++ R, 0)) := by
  have e : gCat (l.drop k) ++ R = encText g.who ++ (tB g.group ++ (nB g.level ++ (gCat (l.drop (k + 1)) ++ R))) := by
    rw [drop_at hx]
    show (gB g ++ gCat (l.drop (k + 1))) ++ R = _
    rw [gB]
    simp only [ByteArray.append_assoc]
  have h1 := text_back g.who (tB g.group ++ (nB g.level ++ (gCat (l.drop (k + 1)) ++ R))) 200 (by omega) (by decide)
  have h2 := bool_back g.group (nB g.level ++ (gCat (l.drop (k + 1)) ++ R))
  have h3 := num_b (gCat (l.drop (k + 1)) ++ R) (x := g.level) ⟨by omega, by omega⟩
  unfold gStep
  simp only
  rw [e, h1]
  simp only
  rw [h2]
  simp only
  rw [h3, clampN_small (by omega)]
theorem gRead_back (l : List Gr) (R : ByteArray) (hl : ∀ g ∈ l, g.who.size ≤ 31 ∧ 0 ≤ g.level ∧ g.level ≤ 3) : ∀ k, k ≤ l.length → gRead (gCat l ++ R, 0) k = (l.take k, (gCat (l.drop k) ++ R, 0))
  | 0, _ => rfl
  | k + 1, h => by
    obtain ⟨g, hx⟩ := get_of_lt (show k < l.length by omega)
    rw [gRead, gRead_back l R hl k (by omega), gStep_back R hx (hl g (List.mem_of_getElem? hx)), take_snoc hx]
theorem cntR_back {n most : Int} (R : ByteArray) (h0 : 0 ≤ n) (h1 : n ≤ most) (hm : most ≤ 1000) : cntR most (nB n ++ R, 0) = n := by
  unfold cntR
  rw [num_b R ⟨h0, by omega⟩]
  simp only
  rw [clampN_small (by omega), if_neg (by omega)]
/-! ### The kinds -/
theorem uses0 {e : E} (h : e.kind = 0) : e.uses = { e.bare0 with ds := e.ds, alt := e.alt, used := e.used } := by unfold E.uses E.bare0; rw [if_pos h]
theorem uses1 {e : E} (h : e.kind = 1) : e.uses = { e.bare0 with limit := e.limit, last := e.last, empty := e.empty, owner := e.owner } := by unfold E.uses E.bare0; rw [if_neg (by omega), if_pos h]
theorem uses2 {e : E} (h : e.kind = 2) : e.uses = { e.bare0 with target := e.target } := by unfold E.uses E.bare0; rw [if_neg (by omega), if_neg (by omega), if_pos h]
theorem uses3 {e : E} (h : e.kind = 3) : e.uses = { e.bare0 with catalog := e.catalog } := by unfold E.uses E.bare0; rw [if_neg (by omega), if_neg (by omega), if_neg (by omega), if_pos h]
theorem uses4 {e : E} (h : e.kind = 4) : e.uses = { e.bare0 with level := e.level, owner := e.owner, grants := e.grants } := by unfold E.uses E.bare0; rw [if_neg (by omega), if_neg (by omega), if_neg (by omega), if_neg (by omega), if_pos h]
theorem back1 {e : E} (hk : e.kind = 1) (h : groupOK e = true) (R : ByteArray) : grp.rd e.bare0 (grp.out bempty e ++ R, 0) = (e.uses, (R, 0)) := by
  obtain ⟨hb1, hb2, hb3⟩ := groupOK_own h
  have e0 : grp.out bempty e ++ R = nB e.limit ++ (nB e.last ++ (tB e.empty ++ (encText e.owner ++ R))) := by
    show grpOut bempty e.limit e.last e.empty e.owner ++ R = _
    unfold grpOut
    rw [emp_app]
    simp only [ByteArray.append_assoc]
  have h1 := num_b (nB e.last ++ (tB e.empty ++ (encText e.owner ++ R))) (x := e.limit) ⟨by omega, by omega⟩
  have h2 := num_b (tB e.empty ++ (encText e.owner ++ R)) (x := e.last) ⟨by omega, by omega⟩
  have h3 := bool_back e.empty (encText e.owner ++ R)
  have h4 := text_back e.owner R 200 (by omega) (by decide)
  rw [e0, uses1 hk]
  simp only [grp, h1, h2, h3, h4]
  rw [clampN_small (by omega), clampN_small (by omega)]
theorem back2 {e : E} (hk : e.kind = 2) (h : aliasOK e = true) (R : ByteArray) : ali.rd e.bare0 (ali.out bempty e ++ R, 0) = (e.uses, (R, 0)) := by
  have hl := aliasOK_lim h
  have e0 : ali.out bempty e ++ R = encText e.target ++ R := by
    show (bempty ++ encText e.target) ++ R = _
    rw [emp_app]
  have h4 := text_back e.target R 200 (by omega) (by decide)
  rw [e0, uses2 hk]
  simp only [ali, h4]
theorem back3 {e : E} (hk : e.kind = 3) (h : catOK e = true) (R : ByteArray) : cat.rd e.bare0 (cat.out bempty e ++ R, 0) = (e.uses, (R, 0)) := by
  have hl := inB_one h
  have e0 : cat.out bempty e ++ R = nB e.catalog ++ R := by
    show (bempty ++ nB e.catalog) ++ R = _
    rw [emp_app]
  have h1 := num_b R (x := e.catalog) ⟨by omega, by omega⟩
  rw [e0, uses3 hk]
  simp only [cat, h1]
  rw [clampN_small (by omega)]
theorem back4 {e : E} (hk : e.kind = 4) (h : profOK e = true) (R : ByteArray) : prof.rd e.bare0 (prof.out bempty e ++ R, 0) = (e.uses, (R, 0)) := by
  obtain ⟨hb1, hb2, hb3, hb4⟩ := profOK_lim h
  have e0 : prof.out bempty e ++ R = nB e.level ++ (encText e.owner ++ (nB e.grants.length ++ (gCat e.grants ++ R))) := by
    show profOut bempty e.level e.owner e.grants ++ R = _
    unfold profOut
    rw [gsOut_cat, emp_app]
    simp only [ByteArray.append_assoc]
  have h1 := num_b (encText e.owner ++ (nB e.grants.length ++ (gCat e.grants ++ R))) (x := e.level) ⟨by omega, by omega⟩
  have h2 := text_back e.owner (nB e.grants.length ++ (gCat e.grants ++ R)) 200 (by omega) (by decide)
  have h3 := num_b (gCat e.grants ++ R) (x := (e.grants.length : Int)) ⟨by omega, by omega⟩
  have h5 : cntR 8 (nB e.grants.length ++ (gCat e.grants ++ R), 0) = (e.grants.length : Int) := cntR_back _ (by omega) (by omega) (by decide)
  have h6 := gRead_back e.grants R hb4 e.grants.length (Nat.le_refl _)
  rw [List.take_length, List.drop_length] at h6
  have h7 : prX (nB e.level ++ (encText e.owner ++ (nB e.grants.length ++ (gCat e.grants ++ R))), 0) = (nB e.grants.length ++ (gCat e.grants ++ R), 0) := by
    unfold prX
    rw [h1]
    simp only
    rw [h2]
  have h8 : prG (nB e.level ++ (encText e.owner ++ (nB e.grants.length ++ (gCat e.grants ++ R))), 0) = (e.grants, (R, 0)) := by
    unfold prG prN
    rw [h7, h5, h3, Int.toNat_natCast]
    simp only
    rw [h6]
    show (e.grants, (bempty ++ R, (0 : Int))) = _
    rw [emp_app]
  rw [e0, uses4 hk]
  simp only [prof, h1, h2, h8]
  rw [clampN_small (by omega)]
theorem nX_num2 : ∀ (k : Nat) (x : Rd), nX k x.num.2 = nX (k + 1) x
  | 0, x => rfl
  | k + 1, x => by rw [nX, nX_num2 k x]; rfl
theorem insN_nX : ∀ (l : List Nat) (cs : Array Value) (x : Rd), (insN (cs, x) l).2 = nX l.length x
  | [], cs, x => rfl
  | o :: l, cs, x => by
    show (insN (cs.setIfInBounds o (.int .i64 (clampN x.num.1)), x.num.2) l).2 = _
    rw [insN_nX l, nX_num2]; rfl
theorem dY1_nX (x : Rd) : dY1 x = nX 14 x := insN_nX _ _ x
theorem back0 {e : E} (hk : e.kind = 0) (h : dataOK e = true) (R : ByteArray) : dat.rd e.bare0 (dat.out bempty e ++ R, 0) = (e.uses, (R, 0)) := by
  obtain ⟨hb1, hb2, hb3, hb4, hb5, hb6, hb7⟩ := dataOK_lim h
  have hc1 := hb6 e.ds.created (by simp)
  have hc2 := hb6 e.ds.expires (by simp)
  have hc3 := hb6 e.used (by simp)
  generalize hS9 : nB e.used ++ R = S9
  generalize hS8 : nCat e.alt ++ S9 = S8
  generalize hS7 : nB e.alt.length ++ S8 = S7
  generalize hS6 : tB e.ds.archived ++ S7 = S6
  generalize hS5 : nB e.ds.expires ++ S6 = S5
  generalize hS4 : nB e.ds.created ++ S5 = S4
  generalize hS3 : encText e.ds.owner ++ S4 = S3
  generalize hS2 : encText e.ds.volume ++ S3 = S2
  generalize hS1 : nB e.ds.cls ++ S2 = S1
  generalize hS0 : tB e.ds.unique ++ S1 = S0
  have e0 : dat.out bempty e ++ R = nCat (dsNums e) ++ S0 := by
    show dsOut bempty e ++ R = _
    subst hS0; subst hS1; subst hS2; subst hS3; subst hS4; subst hS5; subst hS6; subst hS7; subst hS8; subst hS9
    unfold dsOut dsOut2 dsOut1
    rw [numsOut_cat, numsOut_cat, numsOut_cat, emp_app]
    simp only [nCat, app_emp, ByteArray.append_assoc]
  have q0 : ∀ k, k ≤ 14 → nX k (nCat (dsNums e) ++ S0, 0) = (nCat ((dsNums e).drop k) ++ S0, 0) := fun k hk => nX_back (dsNums e) S0 hb2 k hk
  have q14 : dY1 (nCat (dsNums e) ++ S0, 0) = (S0, 0) := by
    rw [dY1_nX, q0 14 (by decide)]
    show ((bempty ++ S0, (0 : Int)) : Rd) = _
    rw [emp_app]
  have h0 : Rd.bool (S0, 0) = (e.ds.unique, (S1, 0)) := by rw [← hS0]; exact bool_back _ _
  have h1 : Rd.num (S1, 0) = (e.ds.cls, (S2, 0)) := by rw [← hS1]; exact num_b _ ⟨by omega, by omega⟩
  have h2 : Rd.text (S2, 0) 200 = (e.ds.volume, (S3, 0)) := by rw [← hS2]; exact text_back _ _ 200 (by omega) (by decide)
  have h3 : Rd.text (S3, 0) 200 = (e.ds.owner, (S4, 0)) := by rw [← hS3]; exact text_back _ _ 200 (by omega) (by decide)
  have h4 : Rd.num (S4, 0) = (e.ds.created, (S5, 0)) := by rw [← hS4]; exact num_b _ ⟨by omega, by omega⟩
  have h5 : Rd.num (S5, 0) = (e.ds.expires, (S6, 0)) := by rw [← hS5]; exact num_b _ ⟨by omega, by omega⟩
  have h6 : Rd.bool (S6, 0) = (e.ds.archived, (S7, 0)) := by rw [← hS6]; exact bool_back _ _
  have h7 : Rd.num (S7, 0) = ((e.alt.length : Int), (S8, 0)) := by rw [← hS7]; exact num_b _ ⟨by omega, by omega⟩
  have h7' : cntR 4 (S7, 0) = (e.alt.length : Int) := by rw [← hS7]; exact cntR_back _ (by omega) (by omega) (by decide)
  have h8 : aRead (S8, 0) e.alt.length = (e.alt, (S9, 0)) := by
    have := aRead_back e.alt S9 (fun x hx => by have := hb1 x hx; exact ⟨by omega, by omega⟩) e.alt.length (Nat.le_refl _)
    rw [List.take_length, List.drop_length, hS8] at this
    rw [this]
    show (e.alt, ((bempty ++ S9, (0 : Int)) : Rd)) = _
    rw [emp_app]
  have h9 : Rd.num (S9, 0) = (e.used, (R, 0)) := by rw [← hS9]; exact num_b _ ⟨by omega, by omega⟩
  have q4 : dY4 (nCat (dsNums e) ++ S0, 0) = (S4, 0) := by unfold dY4; rw [q14]; simp only [h0, h1, h2, h3]
  have q7 : dY7 (nCat (dsNums e) ++ S0, 0) = (S6, 0) := by unfold dY7; rw [q4]; simp only [h4, h5]
  have q8 : dY8 (nCat (dsNums e) ++ S0, 0) = (S7, 0) := by unfold dY8; rw [q7, h6]
  have qM : dM (nCat (dsNums e) ++ S0, 0) = e.alt.length := by unfold dM; rw [q8, h7', Int.toNat_natCast]
  have qA : dA (nCat (dsNums e) ++ S0, 0) = (e.alt, (S9, 0)) := by unfold dA; rw [qM, q8, h7]; exact h8
  have qD : dsRd (nCat (dsNums e) ++ S0, 0) = e.ds := by
    have n0 := nX_num (k := 0) S0 hb2 rfl
    have n1 := nX_num (k := 1) S0 hb2 rfl
    have n2 := nX_num (k := 2) S0 hb2 rfl
    have n3 := nX_num (k := 3) S0 hb2 rfl
    have n4 := nX_num (k := 4) S0 hb2 rfl
    have n5 := nX_num (k := 5) S0 hb2 rfl
    have n6 := nX_num (k := 6) S0 hb2 rfl
    have n7 := nX_num (k := 7) S0 hb2 rfl
    have n8 := nX_num (k := 8) S0 hb2 rfl
    have n9 := nX_num (k := 9) S0 hb2 rfl
    have n10 := nX_num (k := 10) S0 hb2 rfl
    have n11 := nX_num (k := 11) S0 hb2 rfl
    have n12 := nX_num (k := 12) S0 hb2 rfl
    have n13 := nX_num (k := 13) S0 hb2 rfl
    unfold dsRd
    rw [n0, n1, n2, n3, n4, n5, n6, n7, n8, n9, n10, n11, n12, n13, q14, q4, q7, h0]
    simp only [h1, h2, h3, h4, h5, h6]
    rw [clampN_small (by omega), clampN_small (by omega), clampN_small (by omega)]
  rw [e0, uses0 hk]
  simp only [dat, qD, qA, h9]
  rw [clampN_small (by omega)]
/-- At each kind. -/
theorem back_any {e : E} {i : Nat} (hi : i < 5) (hk : e.kind = (i : Int)) (h : (kinds i).ok e = true) (R : ByteArray) : (kinds i).rd e.bare0 ((kinds i).out bempty e ++ R, 0) = (e.uses, (R, 0)) := by
  rcases (by omega : i = 0 ∨ i = 1 ∨ i = 2 ∨ i = 3 ∨ i = 4) with rfl | rfl | rfl | rfl | rfl
  · exact back0 hk h R
  · exact back1 hk h R
  · exact back2 hk h R
  · exact back3 hk h R
  · exact back4 hk h R
theorem re_any {e : E} {i : Nat} (hi : i < 5) (hk : e.kind = (i : Int)) (h : (kinds i).ok e = true) : (kinds i).re e = (e.uses, (bempty, 0)) := by
  have := back_any hi hk h bempty
  rwa [app_emp] at this
theorem valid_uses {e : E} {i : Nat} (hi : i < 5) (hk : e.kind = (i : Int)) : (kinds i).valid e = ((kinds i).nm e.name && ((kinds i).ok e && decide (e.uses = e))) := by
  unfold KF.valid
  cases hn : (kinds i).nm e.name with
  | false => rfl
  | true =>
    cases ho : (kinds i).ok e with
    | false => rfl
    | true =>
      rw [re_any hi hk ho]
      rfl
end Go.Proofs.YtlkkiimmangplaaGreatDoor

/- Records in plain words: how long they are, and that they read as their entries. -/
namespace Go.Proofs.YtlkkiimmangplaaGreatDoor
open Go.RowKit
set_option linter.unusedVariables false
set_option linter.unusedSimpArgs false
theorem sp_mem : ∀ (l : List UInt8) (b : UInt8), b ∈ l → b = 46 ∨ ∃ p ∈ sp l, b ∈ p
  | [], b, h => by cases h
  | c :: r, b, h => by
    unfold sp
    by_cases hc : c = 46
    · rw [if_pos hc]
      rcases List.mem_cons.1 h with rfl | h
      · exact .inl hc
      · rcases sp_mem r b h with h | ⟨p, hp, hb⟩
        · exact .inl h
        · exact .inr ⟨p, List.mem_cons_of_mem _ hp, hb⟩
    · rw [if_neg hc]
      cases hs : sp r with
      | nil => exact absurd hs (sp_ne r)
      | cons x t =>
        simp only
        rcases List.mem_cons.1 h with rfl | h
        · exact .inr ⟨_, List.mem_cons_self .., List.mem_cons_self ..⟩
        · rcases sp_mem r b h with h | ⟨p, hp, hb⟩
          · exact .inl h
          · rw [hs] at hp
            rcases List.mem_cons.1 hp with rfl | hp
            · exact .inr ⟨_, List.mem_cons_self .., List.mem_cons_of_mem _ hb⟩
            · exact .inr ⟨p, List.mem_cons_of_mem _ hp, hb⟩
theorem qual_no {p1 p2 : UInt8 → Bool} (h1 : p1 32 = false) (h2 : p2 32 = false) {l : List UInt8} (h : qualB p1 p2 l = true) : (32 : UInt8) ∉ l := by
  unfold qualB at h
  simp only [Bool.and_eq_true, decide_eq_true_eq] at h
  obtain ⟨ha, hb, hc, hd⟩ := h
  intro hm
  cases l with
  | nil => cases hm
  | cons x r =>
    rcases List.mem_cons.1 hm with rfl | hm
    · simp [h1] at hc
    · have := List.all_eq_true.1 hd 32 (by simpa using hm)
      rw [h2] at this; cases this
theorem allB_no {most : Int} {p : ByteArray → Bool} {s : ByteArray} (hp : ∀ q : ByteArray, p q = true → (32 : UInt8) ∉ q.data.toList) (h : allB most p s = true) : (32 : UInt8) ∉ s.data.toList := by
  unfold allB at h
  simp only [Bool.and_eq_true] at h
  intro hm
  rcases sp_mem _ _ hm with h' | ⟨q, hq, hb⟩
  · exact absurd h' (by decide)
  · have := List.all_eq_true.1 h.2.2 (mkB q) (by rw [parts_eq, spB]; exact List.mem_map.2 ⟨q, hq, rfl⟩)
    exact hp _ this (by simpa [mkB] using hb)
theorem name_no {s : ByteArray} (h : nameB s = true) : (32 : UInt8) ∉ s.data.toList := allB_no (fun q hq => qual_no (by decide) (by decide) hq) h
theorem pat_no {s : ByteArray} (h : patB s = true) : (32 : UInt8) ∉ s.data.toList := allB_no (fun q hq => by
  unfold patQ at hq
  rw [Bool.or_eq_true, decide_eq_true_eq, Bool.and_eq_true] at hq
  rcases hq with rfl | hq
  · decide
  · exact qual_no (by decide) (by decide) hq.1) h
theorem allB_size {p : ByteArray → Bool} {s : ByteArray} (h : allB 31 p s = true) : 1 ≤ s.size ∧ s.size ≤ 31 := by
  unfold allB at h
  simp only [Bool.and_eq_true, decide_eq_true_eq] at h
  omega
theorem nm_name {i : Nat} (hi : i < 4) {s : ByteArray} (h : (kinds i).nm s = true) : nameB s = true := by
  rcases (by omega : i = 0 ∨ i = 1 ∨ i = 2 ∨ i = 3) with rfl | rfl | rfl | rfl
  · exact h
  · have h' : groupB s = true := h
    unfold groupB at h'
    simp only [Bool.and_eq_true] at h'
    exact h'.2.1
  · have h' : aliasN s = true := h
    unfold aliasN at h'
    simp only [Bool.and_eq_true] at h'
    exact h'.1
  · have h' : catN s = true := h
    unfold catN at h'
    simp only [Bool.and_eq_true] at h'
    exact h'.1
theorem nm_pat {s : ByteArray} (h : (kinds 4).nm s = true) : patB s = true := h
theorem nm_lim {i : Nat} (hi : i < 5) {s : ByteArray} (h : (kinds i).nm s = true) : (32 : UInt8) ∉ s.data.toList ∧ 1 ≤ s.size ∧ s.size ≤ 31 := by
  rcases Nat.lt_or_ge i 4 with h4 | h4
  · have h' := nm_name h4 h
    exact ⟨name_no h', allB_size h'⟩
  · obtain rfl : i = 4 := by omega
    exact ⟨pat_no h, allB_size (nm_pat h)⟩
theorem blanks_data (k : Nat) : (blanks k).data.toList = List.replicate k 32 := by
  show (Lib.repeatL [32] k).toArray.toList = _
  rw [List.toList_toArray, show [(32 : UInt8)] = List.replicate 1 32 from rfl, Lib.repeatL_replicate, Nat.mul_one]
theorem trim_name {s : ByteArray} (k : Nat) (h : (32 : UInt8) ∉ s.data.toList) : trimR (s ++ blanks k) = s := by
  apply eq_of_data
  unfold trimR
  rw [List.toList_toArray, data_append, blanks_data]
  have hl : s.data.toList.length = s.size := rfl
  rw [Lib.trimRightB_take (s.data.toList ++ List.replicate k 32) 32 s.data.toList.length (by simp) (fun j b hj hb => ?_) (fun b h0 hb => ?_)]
  · simp
  · rw [List.getElem?_append_right hj] at hb
    exact (List.mem_replicate.1 (List.mem_of_getElem? hb)).2
  · rw [List.getElem?_append_left (by omega)] at hb
    rintro rfl
    exact h (List.mem_of_getElem? hb)
/-! ### How long -/
theorem encF_le : ∀ (k f : Nat) (n : Int), n < 128 ^ (k + 1) → (encF f n).length ≤ k + 1
  | _, 0, n, _ => by simp [encF]
  | k, f + 1, n, h => by
    unfold encF
    split
    · simp
    · rename_i hn
      cases k with
      | zero => omega
      | succ k =>
        have := encF_le k f (n / 128) (by rw [Int.pow_succ] at h; omega)
        simp; omega
theorem nB_le {n : Int} (k : Nat) (h : n < 128 ^ (k + 1)) : (nB n).size ≤ k + 1 := by
  rw [strOfNums_size]
  exact encF_le k 9 n h
theorem tB_size (b : Bool) : (tB b).size = 1 := by rw [strOfNums_size]; rfl
theorem text_le {s : ByteArray} {m : Nat} (h : s.size ≤ m) (hm : m < 128) : (encText s).size ≤ m + 1 := by
  have := nB_le (n := (s.size : Int)) 0 (by omega)
  show (nB (s.size : Int) ++ s).size ≤ m + 1
  rw [size_append]
  omega
theorem word_le {s : ByteArray} (h : wordB s = true) : s.size ≤ 8 := by
  rw [word_eq] at h
  unfold qualR validB at h
  simp only [Bool.and_eq_true, decide_eq_true_eq] at h
  obtain ⟨⟨h1, h2, h3⟩, h4⟩ := h
  have h5 : (46 : UInt8) ∉ s.data.toList := dotless_len.1 (by simpa [spB] using h4)
  have h6 := List.all_eq_true.1 h3 s (by rw [spB, sp_dotless _ h5]; simp [mkB_data])
  unfold partB at h6
  simp only [Bool.false_and, Bool.false_or, Bool.and_eq_true, decide_eq_true_eq] at h6
  exact h6.2.1
theorem owner_le {s : ByteArray} (h : (decide (s = bempty) || wordB s) = true) : s.size ≤ 8 := by
  rw [Bool.or_eq_true, decide_eq_true_eq] at h
  rcases h with rfl | h
  · decide
  · exact word_le h
theorem owner_le2 {s : ByteArray} (h : (s.toList == (⟨#[]⟩ : ByteArray).toList || wordB s) = true) : s.size ≤ 8 := by
  rw [toList_beq] at h
  exact owner_le h
theorem grsOK_le : ∀ {gs : List Gr} {seen : List (ByteArray × Bool)}, grsOK gs seen = true → ∀ g ∈ gs, g.who.size ≤ 8
  | [], _, _ => by simp
  | x :: r, seen, h => fun g hg => by
    rw [grsOK, Bool.and_eq_true, Bool.and_eq_true, Bool.and_eq_true] at h
    rcases List.mem_cons.1 hg with rfl | hg
    · exact word_le h.1
    · exact grsOK_le h.2.2.2 g hg
theorem nCat_le : ∀ (l : List Int), (∀ x ∈ l, Num x) → (nCat l).size ≤ 6 * l.length
  | [], _ => by decide
  | x :: r, h => by
    have h1 := nB_le (n := x) 5 (by have := (h x (List.mem_cons_self ..)).2; omega)
    have h2 := nCat_le r (fun y hy => h y (List.mem_cons_of_mem _ hy))
    show (nB x ++ nCat r).size ≤ _
    rw [size_append, List.length_cons]
    omega
theorem gCat_le : ∀ (l : List Gr), (∀ g ∈ l, g.who.size ≤ 8 ∧ 0 ≤ g.level ∧ g.level ≤ 3) → (gCat l).size ≤ 11 * l.length
  | [], _ => by decide
  | g :: r, h => by
    have hg := h g (List.mem_cons_self ..)
    have h1 := text_le hg.1 (by decide)
    have h3 := tB_size g.group
    have h4 := nB_le (n := g.level) 0 (by omega)
    have h2 := gCat_le r (fun y hy => h y (List.mem_cons_of_mem _ hy))
    show (gB g ++ gCat r).size ≤ _
    unfold gB
    rw [size_append, size_append, size_append, List.length_cons]
    omega
theorem out_le {e : E} {i : Nat} (hi : i < 5) (h : (kinds i).ok e = true) : ((kinds i).out bempty e).size ≤ 168 := by
  rcases (by omega : i = 0 ∨ i = 1 ∨ i = 2 ∨ i = 3 ∨ i = 4) with rfl | rfl | rfl | rfl | rfl
  · have h' : dataOK e = true := h
    obtain ⟨hb1, hb2, hb3, hb4, hb5, hb6, hb7⟩ := dataOK_lim h'
    have hv : e.ds.volume.size ≤ 8 ∧ e.ds.owner.size ≤ 8 := by
      unfold dataOK at h'
      simp only [Bool.and_eq_true] at h'
      obtain ⟨_, _, _, _, _, _, h6, h7, _, _⟩ := h'
      exact ⟨owner_le2 (by simpa using h6), owner_le2 (by simpa using h7)⟩
    have z1 := nCat_le (dsNums e) hb2
    have z1' : (dsNums e).length = 14 := rfl
    have z2 := nB_le (n := e.ds.cls) 5 (by omega)
    have z3 := text_le hv.1 (by decide)
    have z4 := text_le hv.2 (by decide)
    have z5 := nCat_le [e.ds.created, e.ds.expires] (fun x hx => by have := hb6 x (by simp only [List.mem_cons, List.not_mem_nil, or_false] at hx ⊢; omega); exact ⟨by omega, by omega⟩)
    have z6 := nB_le (n := (e.alt.length : Int)) 0 (by omega)
    have z7 := nCat_le e.alt (fun x hx => by have := hb1 x hx; exact ⟨by omega, by omega⟩)
    have z8 := nB_le (n := e.used) 5 (by have := hb6 e.used (by simp); omega)
    have z9 := tB_size e.ds.unique
    have z10 := tB_size e.ds.archived
    show (dsOut bempty e).size ≤ 168
    unfold dsOut dsOut2 dsOut1
    rw [numsOut_cat, numsOut_cat, numsOut_cat, emp_app]
    simp only [size_append, List.length_cons, List.length_nil] at z5 ⊢
    simp only [nB, tB] at *
    omega
  · obtain ⟨hb1, hb2, hb3⟩ := groupOK_own h
    have z1 := nB_le (n := e.limit) 5 (by omega)
    have z2 := nB_le (n := e.last) 5 (by omega)
    have z3 := tB_size e.empty
    have z4 := text_le hb3 (by decide)
    show (grpOut bempty e.limit e.last e.empty e.owner).size ≤ 168
    unfold grpOut
    rw [emp_app]
    simp only [size_append]
    simp only [nB, tB] at *
    omega
  · have z4 := text_le (aliasOK_lim h) (by decide)
    show (bempty ++ encText e.target).size ≤ 168
    rw [emp_app]
    omega
  · have hl := inB_one (show inB 1 15 [e.catalog] = true from h)
    have z1 := nB_le (n := e.catalog) 5 (by omega)
    show (bempty ++ nB e.catalog).size ≤ 168
    rw [emp_app]
    omega
  · have h' : profOK e = true := h
    obtain ⟨hb1, hb2, hb3, hb4⟩ := profOK_lim h'
    have hg : ∀ g ∈ e.grants, g.who.size ≤ 8 := by
      unfold profOK at h'
      rw [Bool.and_eq_true] at h'
      exact grsOK_le h'.1
    have ho : e.owner.size ≤ 8 := by
      unfold profOK at h'
      simp only [Bool.and_eq_true] at h'
      exact owner_le h'.2.2.1
    have z1 := nB_le (n := e.level) 0 (by omega)
    have z2 := text_le ho (by decide)
    have z3 := nB_le (n := (e.grants.length : Int)) 0 (by omega)
    have z4 := gCat_le e.grants (fun g hx => ⟨hg g hx, (hb4 g hx).2⟩)
    show (profOut bempty e.level e.owner e.grants).size ≤ 168
    unfold profOut
    rw [gsOut_cat, emp_app]
    simp only [size_append]
    simp only [nB, tB] at *
    omega
/-! ### Records -/
theorem key_is {i : Nat} {s : ByteArray} (h : s.size ≤ 31) : (kinds i).key s = strOfNums [(kinds i).L] ++ (s ++ blanks (31 - s.size)) := by
  unfold KF.key
  rw [if_neg (by omega), ByteArray.append_assoc]
theorem key_size32 {i : Nat} {s : ByteArray} (h : s.size ≤ 31) : ((kinds i).key s).size = 32 := by
  rw [key_is h, size_append, size_append, strOfNums_size, blanks_size]
  simp; omega
theorem letters {i : Nat} (hi : i < 5) : 0 ≤ (kinds i).L ∧ (kinds i).L < 256 := (kinds_fam.law i hi).letter
theorem letters_inj {i j : Nat} (hi : i < 5) (hj : j < 5) (h : (kinds i).L = (kinds j).L) : i = j := by
  rcases (by omega : i = 0 ∨ i = 1 ∨ i = 2 ∨ i = 3 ∨ i = 4) with rfl | rfl | rfl | rfl | rfl <;> rcases (by omega : j = 0 ∨ j = 1 ∨ j = 2 ∨ j = 3 ∨ j = 4) with rfl | rfl | rfl | rfl | rfl <;> first | rfl | exact absurd h (by decide)
theorem key_data {i : Nat} {s : ByteArray} (h : s.size ≤ 31) : ((kinds i).key s).data.toList = by8 (kinds i).L :: (s.data.toList ++ List.replicate (31 - s.size) 32) := by
  rw [key_is h, data_append, data_append, blanks_data, strOfNums_data]
  rfl
theorem letter_of {i : Nat} (hi : i < 5) {s t : ByteArray} (h : s.size ≤ 31) : letterOf ((kinds i).key s ++ t) = (kinds i).L := by
  unfold letterOf
  rw [data_append, key_data h]
  exact by8_nat (letters hi).1 (letters hi).2
theorem key_name {i : Nat} {s t : ByteArray} (h : s.size ≤ 31) (hn : (32 : UInt8) ∉ s.data.toList) : trimR (((kinds i).key s ++ t).extract 1 32) = s := by
  have e : ((kinds i).key s ++ t).extract 1 32 = s ++ blanks (31 - s.size) := by
    apply eq_of_data
    rw [extract_data, data_append, key_data h, data_append, blanks_data]
    have hl : s.data.toList.length = s.size := rfl
    rw [List.take_append_of_le_length (by simp; omega), List.take_of_length_le (by simp; omega)]
    rfl
  rw [e, trim_name _ hn]
theorem key_rest {i : Nat} {s t : ByteArray} (h : s.size ≤ 31) : ((kinds i).key s ++ t).extract 32 ((kinds i).key s ++ t).size = t := extract_rest _ _ 32 (key_size32 h)
/-- What stands behind a key with more behind the fields. -/
theorem dE_more {e : E} {i : Nat} (hi : i < 5) (hk : e.kind = (i : Int)) (hn : (kinds i).nm e.name = true) (ho : (kinds i).ok e = true) (R : ByteArray) : dE kinds ((kinds i).record e ++ R) i = (e.uses, (R, 0)) := by
  obtain ⟨n1, n2, n3⟩ := nm_lim hi hn
  have e1 : (kinds i).record e ++ R = (kinds i).key e.name ++ ((kinds i).out bempty e ++ R) := by rw [KF.record, ByteArray.append_assoc]
  have e2 : dE0 i ((kinds i).key e.name ++ ((kinds i).out bempty e ++ R)) = e.bare0 := by
    unfold dE0 E.bare0
    rw [key_name n3 n1, hk]
  unfold dE
  rw [e1, e2, key_rest n3, back_any hi hk ho]
theorem rec_letter {e : E} {i : Nat} (hi : i < 5) (hn : (kinds i).nm e.name = true) (R : ByteArray) : letterOf ((kinds i).record e ++ R) = (kinds i).L := by
  obtain ⟨n1, n2, n3⟩ := nm_lim hi hn
  rw [KF.record, ByteArray.append_assoc, letter_of hi n3]
theorem rec_size {e : E} {i : Nat} (hi : i < 5) (hn : (kinds i).nm e.name = true) (ho : (kinds i).ok e = true) : 32 ≤ ((kinds i).record e).size ∧ ((kinds i).record e).size ≤ 200 := by
  obtain ⟨n1, n2, n3⟩ := nm_lim hi hn
  have h1 := key_size32 (i := i) n3
  have h2 := out_le hi ho
  rw [KF.record, size_append]
  omega
theorem valid_parts {e : E} {i : Nat} (hi : i < 5) (hk : e.kind = (i : Int)) (hv : (kinds i).valid e = true) : (kinds i).nm e.name = true ∧ (kinds i).ok e = true ∧ e.uses = e := by
  rw [valid_uses hi hk, Bool.and_eq_true, Bool.and_eq_true, decide_eq_true_eq] at hv
  exact hv
theorem dec_record {e : E} {i : Nat} (hi : i < 5) (hk : e.kind = (i : Int)) (hv : (kinds i).valid e = true) : dE kinds ((kinds i).record e) i = (e, (bempty, 0)) ∧ decI kinds ((kinds i).record e) i = true := by
  obtain ⟨hn, ho, hu⟩ := valid_parts hi hk hv
  have h1 := dE_more hi hk hn ho bempty
  rw [app_emp, hu] at h1
  have h2 := rec_letter hi hn bempty
  rw [app_emp] at h2
  refine ⟨h1, ?_⟩
  unfold decI
  rw [h1, h2]
  simp only [hv, if_true]
  simp [Rd.end_]
theorem decI_letter {s : ByteArray} {i : Nat} (h : decI kinds s i = true) : (kinds i).L = letterOf s := by
  unfold decI at h
  rw [Bool.and_eq_true, beq_iff_eq] at h
  exact h.1
theorem decI_yes {s : ByteArray} {i : Nat} (h : decI kinds s i = true) : (dE kinds s i).2.end_ = 0 ∧ (kinds i).valid (dE kinds s i).1 = true ∧ (kinds i).record (dE kinds s i).1 = s := by
  unfold decI at h
  rw [Bool.and_eq_true, Bool.and_eq_true, Bool.and_eq_true, beq_iff_eq, beq_iff_eq] at h
  obtain ⟨_, h1, h2, h3⟩ := h
  have hv : (kinds i).valid (dE kinds s i).1 = true := by
    by_cases hc : (kinds i).valid (dE kinds s i).1 = true
    · exact hc
    · rw [if_neg hc] at h2; cases h2
  rw [if_pos hv, toList_beq, decide_eq_true_eq] at h3
  exact ⟨h1, hv, h3⟩
theorem dE_kind {s : ByteArray} {i : Nat} (hi : i < 5) : (dE kinds s i).1.kind = (i : Int) := ((kinds_fam.law i hi).keep (dE0 i s) (s.extract 32 s.size, 0)).1
/-- Neither a record that is cut nor one with more behind it is one. -/
theorem no_longer {e : E} {i j : Nat} (hi : i < 5) (hj : j < 5) (hk : e.kind = (i : Int)) (hv : (kinds i).valid e = true) {R : ByteArray} (hR : R ≠ bempty) : decI kinds ((kinds i).record e ++ R) j = false := by
  rw [Bool.eq_false_iff]
  intro h
  obtain ⟨hn, ho, hu⟩ := valid_parts hi hk hv
  have h1 := decI_letter h
  rw [rec_letter hi hn] at h1
  obtain rfl := letters_inj hj hi h1
  obtain ⟨h2, _, _⟩ := decI_yes h
  rw [dE_more hi hk hn ho R] at h2
  unfold Rd.end_ at h2
  rw [if_pos ⟨rfl, hR⟩] at h2
  cases h2
theorem no_shorter {e : E} {i j : Nat} (hi : i < 5) (hj : j < 5) (hk : e.kind = (i : Int)) (hv : (kinds i).valid e = true) {p R : ByteArray} (hp : p ++ R = (kinds i).record e) (hR : R ≠ bempty) : decI kinds p j = false := by
  rw [Bool.eq_false_iff]
  intro h
  obtain ⟨_, h2, h3⟩ := decI_yes h
  have h4 := no_longer hj hi (dE_kind hj) h2 (R := R) hR
  rw [h3, hp, (dec_record hi hk hv).2] at h4
  cases h4
end Go.Proofs.YtlkkiimmangplaaGreatDoor

/- Decode in one form; what it takes and what it refuses. -/
namespace Go.Proofs.YtlkkiimmangplaaGreatDoor
open Go.RowKit
set_option linter.unusedVariables false
set_option linter.unusedSimpArgs false
/-- The entry of a record. -/
def decOpt (s : ByteArray) : Option E := if 32 ≤ s.size ∧ s.size ≤ 200 then ([0, 1, 2, 3, 4].find? (fun i => decI kinds s i)).map (fun i => (dE kinds s i).1) else none
def decE (s : ByteArray) : E := (decOpt s).getD E.zero
def decC (s : ByteArray) : Int := if (decOpt s).isSome = true then 0 else 11
theorem in5 {i : Nat} : i ∈ [0, 1, 2, 3, 4] ↔ i < 5 := by simp; omega
theorem decOpt_at {s : ByteArray} {i : Nat} (hi : i < 5) (hs : 32 ≤ s.size ∧ s.size ≤ 200) (h : decI kinds s i = true) : decOpt s = some (dE kinds s i).1 := by
  unfold decOpt
  rw [if_pos hs]
  cases hf : [0, 1, 2, 3, 4].find? (fun i => decI kinds s i) with
  | none =>
    have := List.find?_eq_none.1 hf i (in5.2 hi)
    exact absurd h this
  | some j =>
    have h1 : decI kinds s j = true := List.find?_some hf
    have h2 : j < 5 := in5.1 (List.mem_of_find?_eq_some hf)
    obtain rfl := letters_inj h2 hi ((decI_letter h1).trans (decI_letter h).symm)
    rfl
theorem decOpt_none {s : ByteArray} (h : (s.size < 32 ∨ 200 < s.size) ∨ ∀ i, i < 5 → decI kinds s i = false) : decOpt s = none := by
  unfold decOpt
  rcases h with h | h
  · rw [if_neg (by omega)]
  · split
    · rw [List.find?_eq_none.2 (fun i hi => by rw [h i (in5.1 hi)]; simp)]
      rfl
    · rfl
theorem decOpt_some {s : ByteArray} {e : E} (h : decOpt s = some e) : ∃ i : Nat, i < 5 ∧ (32 ≤ s.size ∧ s.size ≤ 200) ∧ decI kinds s i = true ∧ e = (dE kinds s i).1 := by
  unfold decOpt at h
  split at h
  · rename_i hs
    obtain ⟨i, h1, h2⟩ := Option.map_eq_some_iff.1 h
    exact ⟨i, in5.1 (List.mem_of_find?_eq_some h1), hs, List.find?_some h1, h2.symm⟩
  · cases h
theorem validE_kind {e : E} {i : Nat} (hi : i < 5) (hk : e.kind = (i : Int)) : validE e = (kinds i).valid e := by
  unfold validE kindAt isKind
  rw [hk, decide_eq_true (by omega), decide_eq_true (by omega), Int.toNat_natCast]; rfl
theorem recE_kind {e : E} {i : Nat} (hi : i < 5) (hk : e.kind = (i : Int)) (hv : validE e = true) : recE e = (kinds i).record e := by
  unfold recE kindAt
  rw [if_pos hv, hk, Int.toNat_natCast]
theorem validE_ex {e : E} (h : validE e = true) : ∃ i : Nat, i < 5 ∧ e.kind = (i : Int) ∧ (kinds i).valid e = true := by
  have h' := h
  unfold validE at h'
  rw [Bool.and_eq_true] at h'
  obtain ⟨i, hi, hk⟩ := isKind_yes h'.1
  exact ⟨i, hi, hk, by rw [← validE_kind hi hk]; exact h⟩
/-- A valid entry's record reads as it. -/
theorem dec_rec {e : E} (h : validE e = true) : decOpt (recE e) = some e := by
  obtain ⟨i, hi, hk, hv⟩ := validE_ex h
  obtain ⟨hn, ho, hu⟩ := valid_parts hi hk hv
  have h1 := dec_record hi hk hv
  rw [recE_kind hi hk h, decOpt_at hi (rec_size hi hn ho) h1.2, h1.1]
theorem rec_lim {e : E} (h : validE e = true) : 32 ≤ (recE e).size ∧ (recE e).size ≤ 200 := by
  obtain ⟨i, hi, hk, hv⟩ := validE_ex h
  obtain ⟨hn, ho, hu⟩ := valid_parts hi hk hv
  rw [recE_kind hi hk h]
  exact rec_size hi hn ho
theorem dec_yes {s : ByteArray} {e : E} (h : decOpt s = some e) : validE e = true ∧ recE e = s := by
  obtain ⟨i, hi, hs, hd, rfl⟩ := decOpt_some h
  obtain ⟨_, h1, h2⟩ := decI_yes hd
  have hk := dE_kind (s := s) hi
  have hv : validE (dE kinds s i).1 = true := by rw [validE_kind hi hk]; exact h1
  exact ⟨hv, by rw [recE_kind hi hk hv]; exact h2⟩
theorem dec_longer {e : E} (h : validE e = true) {R : ByteArray} (hR : R ≠ bempty) : decOpt (recE e ++ R) = none := by
  obtain ⟨i, hi, hk, hv⟩ := validE_ex h
  rw [recE_kind hi hk h]
  exact decOpt_none (.inr fun j hj => no_longer hi hj hk hv hR)
theorem dec_shorter {e : E} (h : validE e = true) {p R : ByteArray} (hp : p ++ R = recE e) (hR : R ≠ bempty) : decOpt p = none := by
  obtain ⟨i, hi, hk, hv⟩ := validE_ex h
  rw [recE_kind hi hk h] at hp
  exact decOpt_none (.inr fun j hj => no_shorter hi hj hk hv hp hR)
/-- The two slices of what was decoded. -/
def DecS (e : E) (p : Value × Value × It) : Prop := (p.1.oneCell' = true ∧ p.2.1.oneCell' = true) ∧ ∀ (w0 w : World) (H : List It) (j : Nat), St w0 H w → H[j]? = some p.2.2 → EntAt w e p.1 p.2.1
theorem decodeU (s : ByteArray) (w : World) (hg : Good w) (hsz : s.size < 4294967281) :
    Calls Tryz.prog 56 #[.string s] w (Ret w (DecS (decE s)) (fun p => .tuple #[.agg ((decE s).cells p.1 p.2.1), .int .i64 (decC s)]) (fun p => [p.2.2])) := by
  refine (decodeE_any kinds kinds_fam s w hg hsz).mono fun en w' h => ?_
  rcases h with ⟨i, b, hi, hs, hd, h1, h2⟩ | ⟨hno, h1, h2⟩
  · have hF := kinds_fam.law i hi
    have hD := decOpt_at hi hs hd
    have e1 : decE s = (dE kinds s i).1 := by unfold decE; rw [hD]; rfl
    have e2 : decC s = 0 := by unfold decC; rw [hD]; rfl
    refine ⟨((kinds i).va b (dE kinds s i).1, (kinds i).vg b (dE kinds s i).1, (kinds i).it b (dE kinds s i).1), ⟨hF.one _ _, fun w0 w H j hst hj => ?_⟩, by rw [h1, e1, e2], h2⟩
    rw [e1]
    exact hF.at_ b j _ (dE0 i s) (s.extract 32 s.size, 0) H w0 w rfl rfl rfl hst hj
  · have hD := decOpt_none hno
    have e1 : decE s = E.zero := by unfold decE; rw [hD]; rfl
    have e2 : decC s = 11 := by unfold decC; rw [hD]; rfl
    refine ⟨(vnil, vnil, .nil), ⟨⟨rfl, rfl⟩, fun w0 w H j hst hj => ?_⟩, by rw [h1, e1, e2], h2.nil⟩
    rw [e1]
    exact entNil rfl rfl
end Go.Proofs.YtlkkiimmangplaaGreatDoor
