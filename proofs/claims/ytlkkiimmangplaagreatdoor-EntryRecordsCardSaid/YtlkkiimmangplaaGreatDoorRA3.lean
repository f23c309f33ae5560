/- Parts: P1, P9, P10, P11, V2, V3, P12, V4, V5, V6, V7, V8, V9, V10, P37, P28. -/
import Derived.Test.YtlkkiimmangplaaGreatDoorRA2
import Derived.Laws.OwnMore
import Derived.Laws.Small
import Derived.Maps.RangeRun
/- Entries compared; the fields that are used. -/
namespace Go.Proofs.YtlkkiimmangplaaGreatDoor
open Go.RowKit
set_option linter.unusedVariables false
set_option linter.unusedSimpArgs false

def DS.zero : DS := ⟨0, 0, 0, 0, 0, 0, 0, 0, 0, 0, 0, 0, 0, 0, false, 0, ⟨#[]⟩, ⟨#[]⟩, 0, 0, false⟩
def E.zero : E := { kind := 0, name := ⟨#[]⟩, ds := DS.zero, alt := [], used := 0, limit := 0, last := 0, empty := false, owner := ⟨#[]⟩, target := ⟨#[]⟩, catalog := 0, level := 0, grants := [] }
/-- The fields that an entry's kind uses. -/
def E.uses (e : E) : E :=
  if e.kind = 0 then { E.zero with kind := e.kind, name := e.name, ds := e.ds, alt := e.alt, used := e.used } else
  if e.kind = 1 then { E.zero with kind := e.kind, name := e.name, limit := e.limit, last := e.last, empty := e.empty, owner := e.owner } else
  if e.kind = 2 then { E.zero with kind := e.kind, name := e.name, target := e.target } else
  if e.kind = 3 then { E.zero with kind := e.kind, name := e.name, catalog := e.catalog } else
  if e.kind = 4 then { E.zero with kind := e.kind, name := e.name, level := e.level, owner := e.owner, grants := e.grants } else { E.zero with kind := e.kind, name := e.name }
def vnil : Value := .slice none 0 0
theorem E.ds_get (e : E) (va vg : Value) : ∀ j, j < 21 → (e.cells va vg)[2 + j]? = e.ds.cells[j]? := by
  intro j hj
  have h : j = 0 ∨ j = 1 ∨ j = 2 ∨ j = 3 ∨ j = 4 ∨ j = 5 ∨ j = 6 ∨ j = 7 ∨ j = 8 ∨ j = 9 ∨ j = 10 ∨ j = 11 ∨ j = 12 ∨ j = 13 ∨ j = 14 ∨ j = 15 ∨ j = 16 ∨ j = 17 ∨ j = 18 ∨ j = 19 ∨ j = 20 := by omega
  rcases h with rfl | rfl | rfl | rfl | rfl | rfl | rfl | rfl | rfl | rfl | rfl | rfl | rfl | rfl | rfl | rfl | rfl | rfl | rfl | rfl | rfl <;> rfl

set_option maxRecDepth 100000 in
theorem used_any (e : E) (A A' : Option Addr) (m c m' c' : Nat) (w : World) :
    Calls Tryz.prog 116 #[.agg (e.cells (.slice A m c) (.slice A' m' c'))] w (RetV w (.agg (e.uses.cells (if e.kind = 0 then .slice A m c else vnil) (if e.kind = 4 then .slice A' m' c' else vnil)))) := by
  refine enter Tryz.func116 rfl Tryz.ntmps116 rfl ?_
  refine WC.seq ?_
  refine WC.region ?_
  refine WL.box rfl rfl rfl (fun b1 => ?_)
  refine WL.alloc Tryz.zeroValue34 rfl rfl (fun b2 => ?_)
  refine WL.nil_ ?_
  refine End.seq ?_
  refine WC.seq ?_
  refine WC.region ?_
  refine WL.p rfl rfl rfl (P.fieldAddr fa_34_0 rfl) ?_
  refine WL.p rfl rfl rfl (P.loadO 1 Tryz.isAgg3 rfl rfl rfl) ?_
  refine WL.p rfl rfl rfl (P.fieldAddr fa_34_1 rfl) ?_
  refine WL.p rfl rfl rfl (P.loadO 1 Tryz.isAgg9 rfl rfl rfl) ?_
  refine WL.p rfl rfl rfl (P.build rfl (fun w => bo_34 Tryz.zeroValue34 (cs := #[_, _, _, _, _, _, _, _, _, _, _, _, _, _, _, _, _, _, _, _, _, _, _, _, _, _, _, _, _, _, _, _, _]) rfl rfl w)) ?_
  refine WL.alloc Tryz.zeroValue34 rfl rfl (fun b3 => ?_)
  refine WL.storeW 0 Tryz.sizeOf34 rfl rfl rfl rfl rfl rfl rfl ?_
  refine WL.nil_ ?_
  refine End.seq ?_
  refine WC.seq ?_
  refine WC.seq ?_
  refine WC.region ?_
  refine WL.p rfl rfl rfl (P.fieldAddr fa_34_0 rfl) ?_
  refine WL.p rfl rfl rfl (P.loadO 2 Tryz.isAgg3 rfl rfl rfl) ?_
  refine WL.nil_ ?_
  refine End.seq ?_
  refine WC.block ?_
  refine WC.seq ?_
  refine WC.region ?_
  refine WL.p rfl rfl rfl (P.cmp rfl rfl rfl) ?_
  refine WL.p rfl rfl rfl (P.assign rfl) ?_
  refine WL.nil_ ?_
  refine End.seq ?_
  refine WC.cond rfl (fun hc11 => ?_) (fun hc11 => ?_)
  ·
    try simp only [decide_eq_true_eq, decide_eq_false_iff_not, beq_iff_eq, beq_eq_false_iff_ne, bne_iff_ne, bne_eq_false_iff_eq, Bool.not_eq_true', Bool.not_eq_false', ne_eq, Int.not_lt, Int.not_le] at hc11
    apply WC.draws (al := []) (vs := [_, _, _, _, _, _, _, fun _ => undef, _, fun _ => undef, _, fun _ => undef]) (Hs := fun v HH b s => (blay [(b 7, 2, 21, (cellsOf (v 1 s)).toList), (b 9, 23, 1, [v 3 s]), (b 11, 24, 1, [v 5 s])] HH 0)) (by kernel_rfl) (by kernel_rfl) (by kernel_rfl)
    case steps =>
      refine Stps.cons (Stp.p (fun b s hd => ⟨_, ⟨rfl, P.fieldAddr fa_34_2 rfl⟩, rfl, rfl⟩)) ?_
      refine Stps.cons (Stp.p (fun b s hd => ⟨_, ⟨rfl, P.loadA 2 (vs := e.ds.cells) Tryz.isAgg31 Tryz.sizeOf31 rfl rfl rfl (E.ds_get e _ _)⟩, rfl, rfl⟩)) ?_
      refine Stps.cons (Stp.p (fun b s hd => ⟨_, ⟨rfl, P.fieldAddr fa_34_3 rfl⟩, rfl, rfl⟩)) ?_
      refine Stps.cons (Stp.p (fun b s hd => ⟨_, ⟨rfl, P.loadO 2 Tryz.isAgg22 rfl rfl rfl⟩, rfl, rfl⟩)) ?_
      refine Stps.cons (Stp.p (fun b s hd => ⟨_, ⟨rfl, P.fieldAddr fa_34_4 rfl⟩, rfl, rfl⟩)) ?_
      refine Stps.cons (Stp.p (fun b s hd => ⟨_, ⟨rfl, P.loadO 2 Tryz.isAgg3 rfl rfl rfl⟩, rfl, rfl⟩)) ?_
      refine Stps.cons (Stp.p (fun b s hd => ⟨_, ⟨rfl, P.fieldAddr fa_34_2 rfl⟩, rfl, rfl⟩)) ?_
      refine Stps.cons (Stp.storeA 0 0 Tryz.sizeOf31 (fun b s hd => ⟨true, _, _, _, _, _, _, rfl, rfl, rfl, rfl, rfl, rfl, rfl, rfl, rfl, rfl, rfl, rfl⟩)) ?_
      refine Stps.cons (Stp.p (fun b s hd => ⟨_, ⟨rfl, P.fieldAddr fa_34_3 rfl⟩, rfl, rfl⟩)) ?_
      refine Stps.cons (Stp.store 0 1 Tryz.sizeOf22 (fun b s hd => ⟨true, _, _, _, _, _, _, rfl, rfl, rfl, rfl, rfl, rfl, rfl, rfl, rfl, rfl, rfl⟩)) ?_
      refine Stps.cons (Stp.p (fun b s hd => ⟨_, ⟨rfl, P.fieldAddr fa_34_4 rfl⟩, rfl, rfl⟩)) ?_
      refine Stps.cons (Stp.store 0 2 Tryz.sizeOf3 (fun b s hd => ⟨true, _, _, _, _, _, _, rfl, rfl, rfl, rfl, rfl, rfl, rfl, rfl, rfl, rfl, rfl⟩)) ?_
      exact Stps.nil
    case h0 => exact fun s => rfl
    case agree => exact AgrAll.nil
    intro s4
    refine End.shape (ρ' := [(0, _), (1, _), (2, _), (3, _), (4, _), (5, _), (6, _), (7, _), (8, _), (9, _), (10, _), (11, _), (12, _), (13, _), (14, _), (15, _), (16, _), (17, _), (18, _), (19, _), (20, _), (21, _)]) (H' := [.blk _ _ #[_, _, _, _, _, _, _, _, _, _, _, _, _, _, _, _, _, _, _, _, _, _, _, _, _, _, _, _, _, _, _, _, _], _, _]) (Env.sub_cons rfl (Env.sub_cons rfl (Env.sub_cons rfl (Env.sub_cons rfl (Env.sub_cons rfl (Env.sub_cons rfl (Env.sub_cons rfl (Env.sub_cons rfl (Env.sub_cons rfl (Env.sub_cons rfl (Env.sub_cons rfl (Env.sub_cons rfl (Env.sub_cons rfl (Env.sub_cons rfl (Env.sub_cons rfl (Env.sub_cons rfl (Env.sub_cons rfl (Env.sub_cons rfl (Env.sub_cons rfl (Env.sub_cons rfl (Env.sub_cons rfl (Env.sub_cons rfl (Env.sub_nil))))))))))))))))))))))) rfl ?_
    refine End.blkN ?_
    refine End.seq ?_
    refine WC.seq ?_
    refine WC.region ?_
    refine WL.p rfl rfl rfl (P.loadW 0 Tryz.isAgg34 Tryz.sizeOf34 rfl rfl rfl) ?_
    refine WL.storeW 1 Tryz.sizeOf34 rfl rfl rfl rfl rfl rfl rfl ?_
    refine WL.nil_ ?_
    refine End.seq ?_
    refine WC.ret ?_
    refine End.retC 1 rfl Tryz.isAgg34 Tryz.sizeOf34 rfl rfl rfl ?_
    exact fun w' hs' => RetV.of (by rw [E.uses, if_pos hc11, if_pos (show e.kind = 0 from by omega), if_neg (show ¬ e.kind = 4 from by omega)]; rfl) hs'
  ·
    try simp only [decide_eq_true_eq, decide_eq_false_iff_not, beq_iff_eq, beq_eq_false_iff_ne, bne_iff_ne, bne_eq_false_iff_eq, Bool.not_eq_true', Bool.not_eq_false', ne_eq, Int.not_lt, Int.not_le] at hc11
    refine WC.seq ?_
    refine WC.region ?_
    refine WL.p rfl rfl rfl (P.cmp rfl rfl rfl) ?_
    refine WL.p rfl rfl rfl (P.assign rfl) ?_
    refine WL.nil_ ?_
    refine End.seq ?_
    refine WC.cond rfl (fun hc22 => ?_) (fun hc22 => ?_)
    ·
      try simp only [decide_eq_true_eq, decide_eq_false_iff_not, beq_iff_eq, beq_eq_false_iff_ne, bne_iff_ne, bne_eq_false_iff_eq, Bool.not_eq_true', Bool.not_eq_false', ne_eq, Int.not_lt, Int.not_le] at hc22
      apply WC.draws (al := []) (vs := [_, _, _, _, _, _, _, _, _, fun _ => undef, _, fun _ => undef, _, fun _ => undef, _, fun _ => undef]) (Hs := fun v HH b s => (blay [(b 9, 25, 1, [v 1 s]), (b 11, 26, 1, [v 3 s]), (b 13, 27, 1, [v 5 s]), (b 15, 28, 1, [v 7 s])] HH 0)) (by kernel_rfl) (by kernel_rfl) (by kernel_rfl)
      case steps =>
        refine Stps.cons (Stp.p (fun b s hd => ⟨_, ⟨rfl, P.fieldAddr fa_34_5 rfl⟩, rfl, rfl⟩)) ?_
        refine Stps.cons (Stp.p (fun b s hd => ⟨_, ⟨rfl, P.loadO 2 Tryz.isAgg3 rfl rfl rfl⟩, rfl, rfl⟩)) ?_
        refine Stps.cons (Stp.p (fun b s hd => ⟨_, ⟨rfl, P.fieldAddr fa_34_6 rfl⟩, rfl, rfl⟩)) ?_
        refine Stps.cons (Stp.p (fun b s hd => ⟨_, ⟨rfl, P.loadO 2 Tryz.isAgg3 rfl rfl rfl⟩, rfl, rfl⟩)) ?_
        refine Stps.cons (Stp.p (fun b s hd => ⟨_, ⟨rfl, P.fieldAddr fa_34_7 rfl⟩, rfl, rfl⟩)) ?_
        refine Stps.cons (Stp.p (fun b s hd => ⟨_, ⟨rfl, P.loadO 2 Tryz.isAgg4 rfl rfl rfl⟩, rfl, rfl⟩)) ?_
        refine Stps.cons (Stp.p (fun b s hd => ⟨_, ⟨rfl, P.fieldAddr fa_34_8 rfl⟩, rfl, rfl⟩)) ?_
        refine Stps.cons (Stp.p (fun b s hd => ⟨_, ⟨rfl, P.loadO 2 Tryz.isAgg9 rfl rfl rfl⟩, rfl, rfl⟩)) ?_
        refine Stps.cons (Stp.p (fun b s hd => ⟨_, ⟨rfl, P.fieldAddr fa_34_5 rfl⟩, rfl, rfl⟩)) ?_
        refine Stps.cons (Stp.store 0 0 Tryz.sizeOf3 (fun b s hd => ⟨true, _, _, _, _, _, _, rfl, rfl, rfl, rfl, rfl, rfl, rfl, rfl, rfl, rfl, rfl⟩)) ?_
        refine Stps.cons (Stp.p (fun b s hd => ⟨_, ⟨rfl, P.fieldAddr fa_34_6 rfl⟩, rfl, rfl⟩)) ?_
        refine Stps.cons (Stp.store 0 1 Tryz.sizeOf3 (fun b s hd => ⟨true, _, _, _, _, _, _, rfl, rfl, rfl, rfl, rfl, rfl, rfl, rfl, rfl, rfl, rfl⟩)) ?_
        refine Stps.cons (Stp.p (fun b s hd => ⟨_, ⟨rfl, P.fieldAddr fa_34_7 rfl⟩, rfl, rfl⟩)) ?_
        refine Stps.cons (Stp.store 0 2 Tryz.sizeOf4 (fun b s hd => ⟨true, _, _, _, _, _, _, rfl, rfl, rfl, rfl, rfl, rfl, rfl, rfl, rfl, rfl, rfl⟩)) ?_
        refine Stps.cons (Stp.p (fun b s hd => ⟨_, ⟨rfl, P.fieldAddr fa_34_8 rfl⟩, rfl, rfl⟩)) ?_
        refine Stps.cons (Stp.store 0 3 Tryz.sizeOf9 (fun b s hd => ⟨true, _, _, _, _, _, _, rfl, rfl, rfl, rfl, rfl, rfl, rfl, rfl, rfl, rfl, rfl⟩)) ?_
        exact Stps.nil
      case h0 => exact fun s => rfl
      case agree => exact AgrAll.nil
      intro s6
      refine End.shape (ρ' := [(0, _), (1, _), (2, _), (3, _), (4, _), (5, _), (6, _), (7, _), (8, _), (9, _), (10, _), (11, _), (12, _), (22, _), (23, _), (24, _), (25, _), (26, _), (27, _), (28, _), (29, _), (30, _), (31, _), (32, _), (33, _), (34, _), (35, _)]) (H' := [.blk _ _ #[_, _, _, _, _, _, _, _, _, _, _, _, _, _, _, _, _, _, _, _, _, _, _, _, _, _, _, _, _, _, _, _, _], _, _]) (Env.sub_cons rfl (Env.sub_cons rfl (Env.sub_cons rfl (Env.sub_cons rfl (Env.sub_cons rfl (Env.sub_cons rfl (Env.sub_cons rfl (Env.sub_cons rfl (Env.sub_cons rfl (Env.sub_cons rfl (Env.sub_cons rfl (Env.sub_cons rfl (Env.sub_cons rfl (Env.sub_cons rfl (Env.sub_cons rfl (Env.sub_cons rfl (Env.sub_cons rfl (Env.sub_cons rfl (Env.sub_cons rfl (Env.sub_cons rfl (Env.sub_cons rfl (Env.sub_cons rfl (Env.sub_cons rfl (Env.sub_cons rfl (Env.sub_cons rfl (Env.sub_cons rfl (Env.sub_cons rfl (Env.sub_nil)))))))))))))))))))))))))))) rfl ?_
      refine End.blkN ?_
      refine End.seq ?_
      refine WC.seq ?_
      refine WC.region ?_
      refine WL.p rfl rfl rfl (P.loadW 0 Tryz.isAgg34 Tryz.sizeOf34 rfl rfl rfl) ?_
      refine WL.storeW 1 Tryz.sizeOf34 rfl rfl rfl rfl rfl rfl rfl ?_
      refine WL.nil_ ?_
      refine End.seq ?_
      refine WC.ret ?_
      refine End.retC 1 rfl Tryz.isAgg34 Tryz.sizeOf34 rfl rfl rfl ?_
      exact fun w' hs' => RetV.of (by rw [E.uses, if_neg hc11, if_pos hc22, if_neg (show ¬ e.kind = 0 from by omega), if_neg (show ¬ e.kind = 4 from by omega)]; rfl) hs'
    ·
      try simp only [decide_eq_true_eq, decide_eq_false_iff_not, beq_iff_eq, beq_eq_false_iff_ne, bne_iff_ne, bne_eq_false_iff_eq, Bool.not_eq_true', Bool.not_eq_false', ne_eq, Int.not_lt, Int.not_le] at hc22
      refine WC.seq ?_
      refine WC.region ?_
      refine WL.p rfl rfl rfl (P.cmp rfl rfl rfl) ?_
      refine WL.p rfl rfl rfl (P.assign rfl) ?_
      refine WL.nil_ ?_
      refine End.seq ?_
      refine WC.cond rfl (fun hc36 => ?_) (fun hc36 => ?_)
      ·
        try simp only [decide_eq_true_eq, decide_eq_false_iff_not, beq_iff_eq, beq_eq_false_iff_ne, bne_iff_ne, bne_eq_false_iff_eq, Bool.not_eq_true', Bool.not_eq_false', ne_eq, Int.not_lt, Int.not_le] at hc36
        refine WC.region ?_
        refine WL.p rfl rfl rfl (P.fieldAddr fa_34_9 rfl) ?_
        refine WL.p rfl rfl rfl (P.loadO 2 Tryz.isAgg9 rfl rfl rfl) ?_
        refine WL.p rfl rfl rfl (P.fieldAddr fa_34_9 rfl) ?_
        refine WL.store 0 Tryz.sizeOf9 rfl rfl rfl rfl rfl rfl ?_
        refine WL.nil_ ?_
        refine End.blkN ?_
        refine End.seq ?_
        refine WC.seq ?_
        refine WC.region ?_
        refine WL.p rfl rfl rfl (P.loadW 0 Tryz.isAgg34 Tryz.sizeOf34 rfl rfl rfl) ?_
        refine WL.storeW 1 Tryz.sizeOf34 rfl rfl rfl rfl rfl rfl rfl ?_
        refine WL.nil_ ?_
        refine End.seq ?_
        refine WC.ret ?_
        refine End.retC 1 rfl Tryz.isAgg34 Tryz.sizeOf34 rfl rfl rfl ?_
        exact fun w' hs' => RetV.of (by rw [E.uses, if_neg hc11, if_neg hc22, if_pos hc36, if_neg (show ¬ e.kind = 0 from by omega), if_neg (show ¬ e.kind = 4 from by omega)]; rfl) hs'
      ·
        try simp only [decide_eq_true_eq, decide_eq_false_iff_not, beq_iff_eq, beq_eq_false_iff_ne, bne_iff_ne, bne_eq_false_iff_eq, Bool.not_eq_true', Bool.not_eq_false', ne_eq, Int.not_lt, Int.not_le] at hc36
        refine WC.seq ?_
        refine WC.region ?_
        refine WL.p rfl rfl rfl (P.cmp rfl rfl rfl) ?_
        refine WL.p rfl rfl rfl (P.assign rfl) ?_
        refine WL.nil_ ?_
        refine End.seq ?_
        refine WC.cond rfl (fun hc41 => ?_) (fun hc41 => ?_)
        ·
          try simp only [decide_eq_true_eq, decide_eq_false_iff_not, beq_iff_eq, beq_eq_false_iff_ne, bne_iff_ne, bne_eq_false_iff_eq, Bool.not_eq_true', Bool.not_eq_false', ne_eq, Int.not_lt, Int.not_le] at hc41
          refine WC.region ?_
          refine WL.p rfl rfl rfl (P.fieldAddr fa_34_10 rfl) ?_
          refine WL.p rfl rfl rfl (P.loadO 2 Tryz.isAgg3 rfl rfl rfl) ?_
          refine WL.p rfl rfl rfl (P.fieldAddr fa_34_10 rfl) ?_
          refine WL.store 0 Tryz.sizeOf3 rfl rfl rfl rfl rfl rfl ?_
          refine WL.nil_ ?_
          refine End.blkN ?_
          refine End.seq ?_
          refine WC.seq ?_
          refine WC.region ?_
          refine WL.p rfl rfl rfl (P.loadW 0 Tryz.isAgg34 Tryz.sizeOf34 rfl rfl rfl) ?_
          refine WL.storeW 1 Tryz.sizeOf34 rfl rfl rfl rfl rfl rfl rfl ?_
          refine WL.nil_ ?_
          refine End.seq ?_
          refine WC.ret ?_
          refine End.retC 1 rfl Tryz.isAgg34 Tryz.sizeOf34 rfl rfl rfl ?_
          exact fun w' hs' => RetV.of (by rw [E.uses, if_neg hc11, if_neg hc22, if_neg hc36, if_pos hc41, if_neg (show ¬ e.kind = 0 from by omega), if_neg (show ¬ e.kind = 4 from by omega)]; rfl) hs'
        ·
          try simp only [decide_eq_true_eq, decide_eq_false_iff_not, beq_iff_eq, beq_eq_false_iff_ne, bne_iff_ne, bne_eq_false_iff_eq, Bool.not_eq_true', Bool.not_eq_false', ne_eq, Int.not_lt, Int.not_le] at hc41
          refine WC.seq ?_
          refine WC.region ?_
          refine WL.p rfl rfl rfl (P.cmp rfl rfl rfl) ?_
          refine WL.p rfl rfl rfl (P.assign rfl) ?_
          refine WL.nil_ ?_
          refine End.seq ?_
          refine WC.cond rfl (fun hc46 => ?_) (fun hc46 => ?_)
          ·
            try simp only [decide_eq_true_eq, decide_eq_false_iff_not, beq_iff_eq, beq_eq_false_iff_ne, bne_iff_ne, bne_eq_false_iff_eq, Bool.not_eq_true', Bool.not_eq_false', ne_eq, Int.not_lt, Int.not_le] at hc46
            apply WC.draws (al := []) (vs := [_, _, _, _, _, _, _, fun _ => undef, _, fun _ => undef, _, fun _ => undef]) (Hs := fun v HH b s => (blay [(b 7, 31, 1, [v 1 s]), (b 9, 28, 1, [v 3 s]), (b 11, 32, 1, [v 5 s])] HH 0)) (by kernel_rfl) (by kernel_rfl) (by kernel_rfl)
            case steps =>
              refine Stps.cons (Stp.p (fun b s hd => ⟨_, ⟨rfl, P.fieldAddr fa_34_11 rfl⟩, rfl, rfl⟩)) ?_
              refine Stps.cons (Stp.p (fun b s hd => ⟨_, ⟨rfl, P.loadO 2 Tryz.isAgg3 rfl rfl rfl⟩, rfl, rfl⟩)) ?_
              refine Stps.cons (Stp.p (fun b s hd => ⟨_, ⟨rfl, P.fieldAddr fa_34_8 rfl⟩, rfl, rfl⟩)) ?_
              refine Stps.cons (Stp.p (fun b s hd => ⟨_, ⟨rfl, P.loadO 2 Tryz.isAgg9 rfl rfl rfl⟩, rfl, rfl⟩)) ?_
              refine Stps.cons (Stp.p (fun b s hd => ⟨_, ⟨rfl, P.fieldAddr fa_34_12 rfl⟩, rfl, rfl⟩)) ?_
              refine Stps.cons (Stp.p (fun b s hd => ⟨_, ⟨rfl, P.loadO 2 Tryz.isAgg32 rfl rfl rfl⟩, rfl, rfl⟩)) ?_
              refine Stps.cons (Stp.p (fun b s hd => ⟨_, ⟨rfl, P.fieldAddr fa_34_11 rfl⟩, rfl, rfl⟩)) ?_
              refine Stps.cons (Stp.store 0 0 Tryz.sizeOf3 (fun b s hd => ⟨true, _, _, _, _, _, _, rfl, rfl, rfl, rfl, rfl, rfl, rfl, rfl, rfl, rfl, rfl⟩)) ?_
              refine Stps.cons (Stp.p (fun b s hd => ⟨_, ⟨rfl, P.fieldAddr fa_34_8 rfl⟩, rfl, rfl⟩)) ?_
              refine Stps.cons (Stp.store 0 1 Tryz.sizeOf9 (fun b s hd => ⟨true, _, _, _, _, _, _, rfl, rfl, rfl, rfl, rfl, rfl, rfl, rfl, rfl, rfl, rfl⟩)) ?_
              refine Stps.cons (Stp.p (fun b s hd => ⟨_, ⟨rfl, P.fieldAddr fa_34_12 rfl⟩, rfl, rfl⟩)) ?_
              refine Stps.cons (Stp.store 0 2 Tryz.sizeOf32 (fun b s hd => ⟨true, _, _, _, _, _, _, rfl, rfl, rfl, rfl, rfl, rfl, rfl, rfl, rfl, rfl, rfl⟩)) ?_
              exact Stps.nil
            case h0 => exact fun s => rfl
            case agree => exact AgrAll.nil
            intro s12
            refine End.shape (ρ' := [(0, _), (1, _), (2, _), (3, _), (4, _), (5, _), (6, _), (7, _), (8, _), (9, _), (10, _), (11, _), (12, _), (22, _), (23, _), (36, _), (37, _), (41, _), (42, _), (46, _), (47, _), (48, _), (49, _), (50, _), (51, _), (52, _), (53, _), (54, _), (55, _), (56, _)]) (H' := [.blk _ _ #[_, _, _, _, _, _, _, _, _, _, _, _, _, _, _, _, _, _, _, _, _, _, _, _, _, _, _, _, _, _, _, _, _], _, _]) (Env.sub_cons rfl (Env.sub_cons rfl (Env.sub_cons rfl (Env.sub_cons rfl (Env.sub_cons rfl (Env.sub_cons rfl (Env.sub_cons rfl (Env.sub_cons rfl (Env.sub_cons rfl (Env.sub_cons rfl (Env.sub_cons rfl (Env.sub_cons rfl (Env.sub_cons rfl (Env.sub_cons rfl (Env.sub_cons rfl (Env.sub_cons rfl (Env.sub_cons rfl (Env.sub_cons rfl (Env.sub_cons rfl (Env.sub_cons rfl (Env.sub_cons rfl (Env.sub_cons rfl (Env.sub_cons rfl (Env.sub_cons rfl (Env.sub_cons rfl (Env.sub_cons rfl (Env.sub_cons rfl (Env.sub_cons rfl (Env.sub_cons rfl (Env.sub_cons rfl (Env.sub_nil))))))))))))))))))))))))))))))) rfl ?_
            refine End.blkN ?_
            refine End.seq ?_
            refine WC.seq ?_
            refine WC.region ?_
            refine WL.p rfl rfl rfl (P.loadW 0 Tryz.isAgg34 Tryz.sizeOf34 rfl rfl rfl) ?_
            refine WL.storeW 1 Tryz.sizeOf34 rfl rfl rfl rfl rfl rfl rfl ?_
            refine WL.nil_ ?_
            refine End.seq ?_
            refine WC.ret ?_
            refine End.retC 1 rfl Tryz.isAgg34 Tryz.sizeOf34 rfl rfl rfl ?_
            exact fun w' hs' => RetV.of (by rw [E.uses, if_neg hc11, if_neg hc22, if_neg hc36, if_neg hc41, if_pos hc46, if_neg (show ¬ e.kind = 0 from by omega), if_pos (show e.kind = 4 from by omega)]; rfl) hs'
          ·
            try simp only [decide_eq_true_eq, decide_eq_false_iff_not, beq_iff_eq, beq_eq_false_iff_ne, bne_iff_ne, bne_eq_false_iff_eq, Bool.not_eq_true', Bool.not_eq_false', ne_eq, Int.not_lt, Int.not_le] at hc46
            refine WC.skip ?_
            refine End.blkN ?_
            refine End.seq ?_
            refine WC.seq ?_
            refine WC.region ?_
            refine WL.p rfl rfl rfl (P.loadW 0 Tryz.isAgg34 Tryz.sizeOf34 rfl rfl rfl) ?_
            refine WL.storeW 1 Tryz.sizeOf34 rfl rfl rfl rfl rfl rfl rfl ?_
            refine WL.nil_ ?_
            refine End.seq ?_
            refine WC.ret ?_
            refine End.retC 1 rfl Tryz.isAgg34 Tryz.sizeOf34 rfl rfl rfl ?_
            exact fun w' hs' => RetV.of (by rw [E.uses, if_neg hc11, if_neg hc22, if_neg hc36, if_neg hc41, if_neg hc46, if_neg (show ¬ e.kind = 0 from by omega), if_neg (show ¬ e.kind = 4 from by omega)]; rfl) hs'

theorem sameL {a b : E} (h0 : a.kind = b.kind) (h1 : a.name.toList = b.name.toList) (h2 : a.ds = b.ds) (h3 : a.alt = b.alt) (h4 : a.used = b.used) (h5 : a.limit = b.limit) (h6 : a.last = b.last) (h7 : a.empty = b.empty) (h8 : a.owner.toList = b.owner.toList) (h9 : a.target.toList = b.target.toList) (h10 : a.catalog = b.catalog) (h11 : a.level = b.level) : decide (a.grants = b.grants) = decide (a = b) := by
  have e1 := toList_inj.1 h1
  have e8 := toList_inj.1 h8
  have e9 := toList_inj.1 h9
  cases a; cases b
  simp only [E.mk.injEq] at *
  simp only [h0, h2, h3, h4, h5, h6, h7, h10, h11, e1, e8, e9, true_and, and_true]

set_option maxRecDepth 100000 in
theorem same_any (a b : E) (va vg ub ug : Value) (w : World) (ha : EntAt w a va vg) (hb : EntAt w b ub ug) :
    Calls Tryz.prog 34 #[.agg (a.cells va vg), .agg (b.cells ub ug)] w (RetV w (.bool (decide (a = b)))) := by
  obtain ⟨⟨A1, c1, rfl, hc1, hr1⟩, ⟨A2, c2, rfl, hc2, hr2⟩⟩ := ha
  obtain ⟨⟨A3, c3, rfl, hc3, hr3⟩, ⟨A4, c4, rfl, hc4, hr4⟩⟩ := hb
  refine enter Tryz.func34 rfl Tryz.ntmps34 rfl ?_
  refine WC.seq ?_
  refine WC.region ?_
  refine WL.box rfl rfl rfl (fun b2 => ?_)
  refine WL.box rfl rfl rfl (fun b3 => ?_)
  refine WL.p rfl rfl rfl (P.assign rfl) ?_
  refine WL.nil_ ?_
  refine End.seq ?_
  refine WC.seq ?_
  refine WC.region ?_
  refine WL.p rfl rfl rfl (P.fieldAddr fa_34_0 rfl) ?_
  refine WL.p rfl rfl rfl (P.loadO 1 Tryz.isAgg3 rfl rfl rfl) ?_
  refine WL.p rfl rfl rfl (P.fieldAddr fa_34_0 rfl) ?_
  refine WL.p rfl rfl rfl (P.loadO 0 Tryz.isAgg3 rfl rfl rfl) ?_
  refine WL.p rfl rfl rfl (P.cmp rfl rfl rfl) ?_
  refine WL.p rfl rfl rfl (P.move rfl) ?_
  refine WL.split 10 rfl (fun hs10 => ?_) (fun hs10 => ?_)
  ·
    try simp only [decide_eq_true_eq, decide_eq_false_iff_not, beq_iff_eq, beq_eq_false_iff_ne, bne_iff_ne, bne_eq_false_iff_eq, Bool.not_eq_true', Bool.not_eq_false', ne_eq, Int.not_lt, Int.not_le] at hs10
    refine WL.p rfl rfl rfl (P.fieldAddr fa_34_1 rfl) ?_
    refine WL.p rfl rfl rfl (P.loadO 1 Tryz.isAgg9 rfl rfl rfl) ?_
    refine WL.p rfl rfl rfl (P.fieldAddr fa_34_1 rfl) ?_
    refine WL.p rfl rfl rfl (P.loadO 0 Tryz.isAgg9 rfl rfl rfl) ?_
    refine WL.p rfl rfl rfl (P.cmps rfl rfl rfl) ?_
    refine WL.p rfl rfl rfl (P.pickT rfl rfl) ?_
    refine WL.p rfl rfl rfl (P.move rfl) ?_
    refine WL.split 17 rfl (fun hs17 => ?_) (fun hs17 => ?_)
    ·
      try simp only [decide_eq_true_eq, decide_eq_false_iff_not, beq_iff_eq, beq_eq_false_iff_ne, bne_iff_ne, bne_eq_false_iff_eq, Bool.not_eq_true', Bool.not_eq_false', ne_eq, Int.not_lt, Int.not_le] at hs17
      refine WL.p rfl rfl rfl (P.fieldAddr fa_34_2 rfl) ?_
      refine WL.p rfl rfl rfl (P.loadA 1 (vs := a.ds.cells) Tryz.isAgg31 Tryz.sizeOf31 rfl rfl rfl (E.ds_get a _ _)) ?_
      refine WL.p rfl rfl rfl (P.fieldAddr fa_34_2 rfl) ?_
      refine WL.p rfl rfl rfl (P.loadA 0 (vs := b.ds.cells) Tryz.isAgg31 Tryz.sizeOf31 rfl rfl rfl (E.ds_get b _ _)) ?_
      refine WL.p rfl rfl rfl (P.eqAgg egt31 rfl rfl (fun w => eq31 _ _ w)) ?_
      refine WL.p rfl rfl rfl (P.pickT rfl rfl) ?_
      refine WL.p rfl rfl rfl (P.move rfl) ?_
      refine WL.split 24 rfl (fun hs24 => ?_) (fun hs24 => ?_)
      ·
        try simp only [decide_eq_true_eq, decide_eq_false_iff_not, beq_iff_eq, beq_eq_false_iff_ne, bne_iff_ne, bne_eq_false_iff_eq, Bool.not_eq_true', Bool.not_eq_false', ne_eq, Int.not_lt, Int.not_le] at hs24
        refine WL.p rfl rfl rfl (P.fieldAddr fa_34_3 rfl) ?_
        refine WL.p rfl rfl rfl (P.loadO 1 Tryz.isAgg22 rfl rfl rfl) ?_
        refine WL.p rfl rfl rfl (P.fieldAddr fa_34_3 rfl) ?_
        refine WL.p rfl rfl rfl (P.loadO 0 Tryz.isAgg22 rfl rfl rfl) ?_
        refine WL.callv (ent_of Tryz.func94 rfl rfl) rfl rfl rfl (fun w hs => eqInts_any _ _ _ _ _ _ w (hr1.st hs) (hr3.st hs)) ?_
        refine WL.p rfl rfl rfl (P.pickT rfl rfl) ?_
        refine WL.p rfl rfl rfl (P.move rfl) ?_
        refine WL.split 31 rfl (fun hs31 => ?_) (fun hs31 => ?_)
        ·
          try simp only [decide_eq_true_eq, decide_eq_false_iff_not, beq_iff_eq, beq_eq_false_iff_ne, bne_iff_ne, bne_eq_false_iff_eq, Bool.not_eq_true', Bool.not_eq_false', ne_eq, Int.not_lt, Int.not_le] at hs31
          refine WL.p rfl rfl rfl (P.fieldAddr fa_34_4 rfl) ?_
          refine WL.p rfl rfl rfl (P.loadO 1 Tryz.isAgg3 rfl rfl rfl) ?_
          refine WL.p rfl rfl rfl (P.fieldAddr fa_34_4 rfl) ?_
          refine WL.p rfl rfl rfl (P.loadO 0 Tryz.isAgg3 rfl rfl rfl) ?_
          refine WL.p rfl rfl rfl (P.cmp rfl rfl rfl) ?_
          refine WL.p rfl rfl rfl (P.pickT rfl rfl) ?_
          refine WL.p rfl rfl rfl (P.move rfl) ?_
          refine WL.split 38 rfl (fun hs38 => ?_) (fun hs38 => ?_)
          ·
            try simp only [decide_eq_true_eq, decide_eq_false_iff_not, beq_iff_eq, beq_eq_false_iff_ne, bne_iff_ne, bne_eq_false_iff_eq, Bool.not_eq_true', Bool.not_eq_false', ne_eq, Int.not_lt, Int.not_le] at hs38
            refine WL.p rfl rfl rfl (P.fieldAddr fa_34_5 rfl) ?_
            refine WL.p rfl rfl rfl (P.loadO 1 Tryz.isAgg3 rfl rfl rfl) ?_
            refine WL.p rfl rfl rfl (P.fieldAddr fa_34_5 rfl) ?_
            refine WL.p rfl rfl rfl (P.loadO 0 Tryz.isAgg3 rfl rfl rfl) ?_
            refine WL.p rfl rfl rfl (P.cmp rfl rfl rfl) ?_
            refine WL.p rfl rfl rfl (P.pickT rfl rfl) ?_
            refine WL.p rfl rfl rfl (P.move rfl) ?_
            refine WL.split 45 rfl (fun hs45 => ?_) (fun hs45 => ?_)
            ·
              try simp only [decide_eq_true_eq, decide_eq_false_iff_not, beq_iff_eq, beq_eq_false_iff_ne, bne_iff_ne, bne_eq_false_iff_eq, Bool.not_eq_true', Bool.not_eq_false', ne_eq, Int.not_lt, Int.not_le] at hs45
              refine WL.p rfl rfl rfl (P.fieldAddr fa_34_6 rfl) ?_
              refine WL.p rfl rfl rfl (P.loadO 1 Tryz.isAgg3 rfl rfl rfl) ?_
              refine WL.p rfl rfl rfl (P.fieldAddr fa_34_6 rfl) ?_
              refine WL.p rfl rfl rfl (P.loadO 0 Tryz.isAgg3 rfl rfl rfl) ?_
              refine WL.p rfl rfl rfl (P.cmp rfl rfl rfl) ?_
              refine WL.p rfl rfl rfl (P.pickT rfl rfl) ?_
              refine WL.p rfl rfl rfl (P.move rfl) ?_
              refine WL.split 52 rfl (fun hs52 => ?_) (fun hs52 => ?_)
              ·
                try simp only [decide_eq_true_eq, decide_eq_false_iff_not, beq_iff_eq, beq_eq_false_iff_ne, bne_iff_ne, bne_eq_false_iff_eq, Bool.not_eq_true', Bool.not_eq_false', ne_eq, Int.not_lt, Int.not_le] at hs52
                refine WL.p rfl rfl rfl (P.fieldAddr fa_34_7 rfl) ?_
                refine WL.p rfl rfl rfl (P.loadO 1 Tryz.isAgg4 rfl rfl rfl) ?_
                refine WL.p rfl rfl rfl (P.fieldAddr fa_34_7 rfl) ?_
                refine WL.p rfl rfl rfl (P.loadO 0 Tryz.isAgg4 rfl rfl rfl) ?_
                refine WL.p rfl rfl rfl (P.eqB Tryz.underlying4 rfl rfl) ?_
                refine WL.p rfl rfl rfl (P.pickT rfl rfl) ?_
                refine WL.p rfl rfl rfl (P.move rfl) ?_
                refine WL.split 59 rfl (fun hs59 => ?_) (fun hs59 => ?_)
                ·
                  try simp only [decide_eq_true_eq, decide_eq_false_iff_not, beq_iff_eq, beq_eq_false_iff_ne, bne_iff_ne, bne_eq_false_iff_eq, Bool.not_eq_true', Bool.not_eq_false', ne_eq, Int.not_lt, Int.not_le] at hs59
                  refine WL.p rfl rfl rfl (P.fieldAddr fa_34_8 rfl) ?_
                  refine WL.p rfl rfl rfl (P.loadO 1 Tryz.isAgg9 rfl rfl rfl) ?_
                  refine WL.p rfl rfl rfl (P.fieldAddr fa_34_8 rfl) ?_
                  refine WL.p rfl rfl rfl (P.loadO 0 Tryz.isAgg9 rfl rfl rfl) ?_
                  refine WL.p rfl rfl rfl (P.cmps rfl rfl rfl) ?_
                  refine WL.p rfl rfl rfl (P.pickT rfl rfl) ?_
                  refine WL.p rfl rfl rfl (P.move rfl) ?_
                  refine WL.split 66 rfl (fun hs66 => ?_) (fun hs66 => ?_)
                  ·
                    try simp only [decide_eq_true_eq, decide_eq_false_iff_not, beq_iff_eq, beq_eq_false_iff_ne, bne_iff_ne, bne_eq_false_iff_eq, Bool.not_eq_true', Bool.not_eq_false', ne_eq, Int.not_lt, Int.not_le] at hs66
                    refine WL.p rfl rfl rfl (P.fieldAddr fa_34_9 rfl) ?_
                    refine WL.p rfl rfl rfl (P.loadO 1 Tryz.isAgg9 rfl rfl rfl) ?_
                    refine WL.p rfl rfl rfl (P.fieldAddr fa_34_9 rfl) ?_
                    refine WL.p rfl rfl rfl (P.loadO 0 Tryz.isAgg9 rfl rfl rfl) ?_
                    refine WL.p rfl rfl rfl (P.cmps rfl rfl rfl) ?_
                    refine WL.p rfl rfl rfl (P.pickT rfl rfl) ?_
                    refine WL.p rfl rfl rfl (P.move rfl) ?_
                    refine WL.split 73 rfl (fun hs73 => ?_) (fun hs73 => ?_)
                    ·
                      try simp only [decide_eq_true_eq, decide_eq_false_iff_not, beq_iff_eq, beq_eq_false_iff_ne, bne_iff_ne, bne_eq_false_iff_eq, Bool.not_eq_true', Bool.not_eq_false', ne_eq, Int.not_lt, Int.not_le] at hs73
                      refine WL.p rfl rfl rfl (P.fieldAddr fa_34_10 rfl) ?_
                      refine WL.p rfl rfl rfl (P.loadO 1 Tryz.isAgg3 rfl rfl rfl) ?_
                      refine WL.p rfl rfl rfl (P.fieldAddr fa_34_10 rfl) ?_
                      refine WL.p rfl rfl rfl (P.loadO 0 Tryz.isAgg3 rfl rfl rfl) ?_
                      refine WL.p rfl rfl rfl (P.cmp rfl rfl rfl) ?_
                      refine WL.p rfl rfl rfl (P.pickT rfl rfl) ?_
                      refine WL.p rfl rfl rfl (P.move rfl) ?_
                      refine WL.split 80 rfl (fun hs80 => ?_) (fun hs80 => ?_)
                      ·
                        try simp only [decide_eq_true_eq, decide_eq_false_iff_not, beq_iff_eq, beq_eq_false_iff_ne, bne_iff_ne, bne_eq_false_iff_eq, Bool.not_eq_true', Bool.not_eq_false', ne_eq, Int.not_lt, Int.not_le] at hs80
                        refine WL.p rfl rfl rfl (P.fieldAddr fa_34_11 rfl) ?_
                        refine WL.p rfl rfl rfl (P.loadO 1 Tryz.isAgg3 rfl rfl rfl) ?_
                        refine WL.p rfl rfl rfl (P.fieldAddr fa_34_11 rfl) ?_
                        refine WL.p rfl rfl rfl (P.loadO 0 Tryz.isAgg3 rfl rfl rfl) ?_
                        refine WL.p rfl rfl rfl (P.cmp rfl rfl rfl) ?_
                        refine WL.p rfl rfl rfl (P.pickT rfl rfl) ?_
                        refine WL.p rfl rfl rfl (P.move rfl) ?_
                        refine WL.split 87 rfl (fun hs87 => ?_) (fun hs87 => ?_)
                        ·
                          try simp only [decide_eq_true_eq, decide_eq_false_iff_not, beq_iff_eq, beq_eq_false_iff_ne, bne_iff_ne, bne_eq_false_iff_eq, Bool.not_eq_true', Bool.not_eq_false', ne_eq, Int.not_lt, Int.not_le] at hs87
                          refine WL.p rfl rfl rfl (P.fieldAddr fa_34_12 rfl) ?_
                          refine WL.p rfl rfl rfl (P.loadO 1 Tryz.isAgg32 rfl rfl rfl) ?_
                          refine WL.p rfl rfl rfl (P.fieldAddr fa_34_12 rfl) ?_
                          refine WL.p rfl rfl rfl (P.loadO 0 Tryz.isAgg32 rfl rfl rfl) ?_
                          refine WL.callv (ent_of Tryz.func95 rfl rfl) rfl rfl rfl (fun w hs => eqGrs_any _ _ _ _ _ _ w (hr2.st hs) (hr4.st hs)) ?_
                          refine WL.p rfl rfl rfl (P.pickT rfl rfl) ?_
                          refine WL.p rfl rfl rfl (P.assign rfl) ?_
                          refine WL.nil_ ?_
                          refine End.seq ?_
                          refine WC.ret ?_
                          refine End.ret1 rfl rfl ?_
                          exact fun w' hs' => RetV.of (by rw [sameL ‹_› ‹_› ‹_› ‹_› ‹_› ‹_› ‹_› ‹_› ‹_› ‹_› ‹_› ‹_›]) hs'
                        ·
                          try simp only [decide_eq_true_eq, decide_eq_false_iff_not, beq_iff_eq, beq_eq_false_iff_ne, bne_iff_ne, bne_eq_false_iff_eq, Bool.not_eq_true', Bool.not_eq_false', ne_eq, Int.not_lt, Int.not_le] at hs87
                          refine WL.off rfl rfl ?_
                          refine WL.off rfl rfl ?_
                          refine WL.off rfl rfl ?_
                          refine WL.off rfl rfl ?_
                          refine WL.off rfl rfl ?_
                          refine WL.p rfl rfl rfl (P.pickF rfl rfl) ?_
                          refine WL.p rfl rfl rfl (P.assign rfl) ?_
                          refine WL.nil_ ?_
                          refine End.seq ?_
                          refine WC.ret ?_
                          refine End.ret1 rfl rfl ?_
                          exact fun w' hs' => RetV.of (by rw [decide_eq_false (fun e => hs87 (by rw [e]))]) hs'
                      ·
                        try simp only [decide_eq_true_eq, decide_eq_false_iff_not, beq_iff_eq, beq_eq_false_iff_ne, bne_iff_ne, bne_eq_false_iff_eq, Bool.not_eq_true', Bool.not_eq_false', ne_eq, Int.not_lt, Int.not_le] at hs80
                        refine WL.off rfl rfl ?_
                        refine WL.off rfl rfl ?_
                        refine WL.off rfl rfl ?_
                        refine WL.off rfl rfl ?_
                        refine WL.off rfl rfl ?_
                        refine WL.p rfl rfl rfl (P.pickF rfl rfl) ?_
                        refine WL.p rfl rfl rfl (P.move rfl) ?_
                        refine WL.off rfl rfl ?_
                        refine WL.off rfl rfl ?_
                        refine WL.off rfl rfl ?_
                        refine WL.off rfl rfl ?_
                        refine WL.off rfl rfl ?_
                        refine WL.p rfl rfl rfl (P.pickF rfl rfl) ?_
                        refine WL.p rfl rfl rfl (P.assign rfl) ?_
                        refine WL.nil_ ?_
                        refine End.seq ?_
                        refine WC.ret ?_
                        refine End.ret1 rfl rfl ?_
                        exact fun w' hs' => RetV.of (by rw [decide_eq_false (fun e => hs80 (by rw [e]))]) hs'
                    ·
                      try simp only [decide_eq_true_eq, decide_eq_false_iff_not, beq_iff_eq, beq_eq_false_iff_ne, bne_iff_ne, bne_eq_false_iff_eq, Bool.not_eq_true', Bool.not_eq_false', ne_eq, Int.not_lt, Int.not_le] at hs73
                      refine WL.off rfl rfl ?_
                      refine WL.off rfl rfl ?_
                      refine WL.off rfl rfl ?_
                      refine WL.off rfl rfl ?_
                      refine WL.off rfl rfl ?_
                      refine WL.p rfl rfl rfl (P.pickF rfl rfl) ?_
                      refine WL.p rfl rfl rfl (P.move rfl) ?_
                      refine WL.off rfl rfl ?_
                      refine WL.off rfl rfl ?_
                      refine WL.off rfl rfl ?_
                      refine WL.off rfl rfl ?_
                      refine WL.off rfl rfl ?_
                      refine WL.p rfl rfl rfl (P.pickF rfl rfl) ?_
                      refine WL.p rfl rfl rfl (P.move rfl) ?_
                      refine WL.off rfl rfl ?_
                      refine WL.off rfl rfl ?_
                      refine WL.off rfl rfl ?_
                      refine WL.off rfl rfl ?_
                      refine WL.off rfl rfl ?_
                      refine WL.p rfl rfl rfl (P.pickF rfl rfl) ?_
                      refine WL.p rfl rfl rfl (P.assign rfl) ?_
                      refine WL.nil_ ?_
                      refine End.seq ?_
                      refine WC.ret ?_
                      refine End.ret1 rfl rfl ?_
                      exact fun w' hs' => RetV.of (by rw [decide_eq_false (fun e => hs73 (by rw [e]))]) hs'
                  ·
                    try simp only [decide_eq_true_eq, decide_eq_false_iff_not, beq_iff_eq, beq_eq_false_iff_ne, bne_iff_ne, bne_eq_false_iff_eq, Bool.not_eq_true', Bool.not_eq_false', ne_eq, Int.not_lt, Int.not_le] at hs66
                    refine WL.off rfl rfl ?_
                    refine WL.off rfl rfl ?_
                    refine WL.off rfl rfl ?_
                    refine WL.off rfl rfl ?_
                    refine WL.off rfl rfl ?_
                    refine WL.p rfl rfl rfl (P.pickF rfl rfl) ?_
                    refine WL.p rfl rfl rfl (P.move rfl) ?_
                    refine WL.off rfl rfl ?_
                    refine WL.off rfl rfl ?_
                    refine WL.off rfl rfl ?_
                    refine WL.off rfl rfl ?_
                    refine WL.off rfl rfl ?_
                    refine WL.p rfl rfl rfl (P.pickF rfl rfl) ?_
                    refine WL.p rfl rfl rfl (P.move rfl) ?_
                    refine WL.off rfl rfl ?_
                    refine WL.off rfl rfl ?_
                    refine WL.off rfl rfl ?_
                    refine WL.off rfl rfl ?_
                    refine WL.off rfl rfl ?_
                    refine WL.p rfl rfl rfl (P.pickF rfl rfl) ?_
                    refine WL.p rfl rfl rfl (P.move rfl) ?_
                    refine WL.off rfl rfl ?_
                    refine WL.off rfl rfl ?_
                    refine WL.off rfl rfl ?_
                    refine WL.off rfl rfl ?_
                    refine WL.off rfl rfl ?_
                    refine WL.p rfl rfl rfl (P.pickF rfl rfl) ?_
                    refine WL.p rfl rfl rfl (P.assign rfl) ?_
                    refine WL.nil_ ?_
                    refine End.seq ?_
                    refine WC.ret ?_
                    refine End.ret1 rfl rfl ?_
                    exact fun w' hs' => RetV.of (by rw [decide_eq_false (fun e => hs66 (by rw [e]))]) hs'
                ·
                  try simp only [decide_eq_true_eq, decide_eq_false_iff_not, beq_iff_eq, beq_eq_false_iff_ne, bne_iff_ne, bne_eq_false_iff_eq, Bool.not_eq_true', Bool.not_eq_false', ne_eq, Int.not_lt, Int.not_le] at hs59
                  refine WL.off rfl rfl ?_
                  refine WL.off rfl rfl ?_
                  refine WL.off rfl rfl ?_
                  refine WL.off rfl rfl ?_
                  refine WL.off rfl rfl ?_
                  refine WL.p rfl rfl rfl (P.pickF rfl rfl) ?_
                  refine WL.p rfl rfl rfl (P.move rfl) ?_
                  refine WL.off rfl rfl ?_
                  refine WL.off rfl rfl ?_
                  refine WL.off rfl rfl ?_
                  refine WL.off rfl rfl ?_
                  refine WL.off rfl rfl ?_
                  refine WL.p rfl rfl rfl (P.pickF rfl rfl) ?_
                  refine WL.p rfl rfl rfl (P.move rfl) ?_
                  refine WL.off rfl rfl ?_
                  refine WL.off rfl rfl ?_
                  refine WL.off rfl rfl ?_
                  refine WL.off rfl rfl ?_
                  refine WL.off rfl rfl ?_
                  refine WL.p rfl rfl rfl (P.pickF rfl rfl) ?_
                  refine WL.p rfl rfl rfl (P.move rfl) ?_
                  refine WL.off rfl rfl ?_
                  refine WL.off rfl rfl ?_
                  refine WL.off rfl rfl ?_
                  refine WL.off rfl rfl ?_
                  refine WL.off rfl rfl ?_
                  refine WL.p rfl rfl rfl (P.pickF rfl rfl) ?_
                  refine WL.p rfl rfl rfl (P.move rfl) ?_
                  refine WL.off rfl rfl ?_
                  refine WL.off rfl rfl ?_
                  refine WL.off rfl rfl ?_
                  refine WL.off rfl rfl ?_
                  refine WL.off rfl rfl ?_
                  refine WL.p rfl rfl rfl (P.pickF rfl rfl) ?_
                  refine WL.p rfl rfl rfl (P.assign rfl) ?_
                  refine WL.nil_ ?_
                  refine End.seq ?_
                  refine WC.ret ?_
                  refine End.ret1 rfl rfl ?_
                  exact fun w' hs' => RetV.of (by rw [decide_eq_false (fun e => hs59 (by rw [e]))]) hs'
              ·
                try simp only [decide_eq_true_eq, decide_eq_false_iff_not, beq_iff_eq, beq_eq_false_iff_ne, bne_iff_ne, bne_eq_false_iff_eq, Bool.not_eq_true', Bool.not_eq_false', ne_eq, Int.not_lt, Int.not_le] at hs52
                refine WL.off rfl rfl ?_
                refine WL.off rfl rfl ?_
                refine WL.off rfl rfl ?_
                refine WL.off rfl rfl ?_
                refine WL.off rfl rfl ?_
                refine WL.p rfl rfl rfl (P.pickF rfl rfl) ?_
                refine WL.p rfl rfl rfl (P.move rfl) ?_
                refine WL.off rfl rfl ?_
                refine WL.off rfl rfl ?_
                refine WL.off rfl rfl ?_
                refine WL.off rfl rfl ?_
                refine WL.off rfl rfl ?_
                refine WL.p rfl rfl rfl (P.pickF rfl rfl) ?_
                refine WL.p rfl rfl rfl (P.move rfl) ?_
                refine WL.off rfl rfl ?_
                refine WL.off rfl rfl ?_
                refine WL.off rfl rfl ?_
                refine WL.off rfl rfl ?_
                refine WL.off rfl rfl ?_
                refine WL.p rfl rfl rfl (P.pickF rfl rfl) ?_
                refine WL.p rfl rfl rfl (P.move rfl) ?_
                refine WL.off rfl rfl ?_
                refine WL.off rfl rfl ?_
                refine WL.off rfl rfl ?_
                refine WL.off rfl rfl ?_
                refine WL.off rfl rfl ?_
                refine WL.p rfl rfl rfl (P.pickF rfl rfl) ?_
                refine WL.p rfl rfl rfl (P.move rfl) ?_
                refine WL.off rfl rfl ?_
                refine WL.off rfl rfl ?_
                refine WL.off rfl rfl ?_
                refine WL.off rfl rfl ?_
                refine WL.off rfl rfl ?_
                refine WL.p rfl rfl rfl (P.pickF rfl rfl) ?_
                refine WL.p rfl rfl rfl (P.move rfl) ?_
                refine WL.off rfl rfl ?_
                refine WL.off rfl rfl ?_
                refine WL.off rfl rfl ?_
                refine WL.off rfl rfl ?_
                refine WL.off rfl rfl ?_
                refine WL.p rfl rfl rfl (P.pickF rfl rfl) ?_
                refine WL.p rfl rfl rfl (P.assign rfl) ?_
                refine WL.nil_ ?_
                refine End.seq ?_
                refine WC.ret ?_
                refine End.ret1 rfl rfl ?_
                exact fun w' hs' => RetV.of (by rw [decide_eq_false (fun e => hs52 (by rw [e]))]) hs'
            ·
              try simp only [decide_eq_true_eq, decide_eq_false_iff_not, beq_iff_eq, beq_eq_false_iff_ne, bne_iff_ne, bne_eq_false_iff_eq, Bool.not_eq_true', Bool.not_eq_false', ne_eq, Int.not_lt, Int.not_le] at hs45
              refine WL.off rfl rfl ?_
              refine WL.off rfl rfl ?_
              refine WL.off rfl rfl ?_
              refine WL.off rfl rfl ?_
              refine WL.off rfl rfl ?_
              refine WL.p rfl rfl rfl (P.pickF rfl rfl) ?_
              refine WL.p rfl rfl rfl (P.move rfl) ?_
              refine WL.off rfl rfl ?_
              refine WL.off rfl rfl ?_
              refine WL.off rfl rfl ?_
              refine WL.off rfl rfl ?_
              refine WL.off rfl rfl ?_
              refine WL.p rfl rfl rfl (P.pickF rfl rfl) ?_
              refine WL.p rfl rfl rfl (P.move rfl) ?_
              refine WL.off rfl rfl ?_
              refine WL.off rfl rfl ?_
              refine WL.off rfl rfl ?_
              refine WL.off rfl rfl ?_
              refine WL.off rfl rfl ?_
              refine WL.p rfl rfl rfl (P.pickF rfl rfl) ?_
              refine WL.p rfl rfl rfl (P.move rfl) ?_
              refine WL.off rfl rfl ?_
              refine WL.off rfl rfl ?_
              refine WL.off rfl rfl ?_
              refine WL.off rfl rfl ?_
              refine WL.off rfl rfl ?_
              refine WL.p rfl rfl rfl (P.pickF rfl rfl) ?_
              refine WL.p rfl rfl rfl (P.move rfl) ?_
              refine WL.off rfl rfl ?_
              refine WL.off rfl rfl ?_
              refine WL.off rfl rfl ?_
              refine WL.off rfl rfl ?_
              refine WL.off rfl rfl ?_
              refine WL.p rfl rfl rfl (P.pickF rfl rfl) ?_
              refine WL.p rfl rfl rfl (P.move rfl) ?_
              refine WL.off rfl rfl ?_
              refine WL.off rfl rfl ?_
              refine WL.off rfl rfl ?_
              refine WL.off rfl rfl ?_
              refine WL.off rfl rfl ?_
              refine WL.p rfl rfl rfl (P.pickF rfl rfl) ?_
              refine WL.p rfl rfl rfl (P.move rfl) ?_
              refine WL.off rfl rfl ?_
              refine WL.off rfl rfl ?_
              refine WL.off rfl rfl ?_
              refine WL.off rfl rfl ?_
              refine WL.off rfl rfl ?_
              refine WL.p rfl rfl rfl (P.pickF rfl rfl) ?_
              refine WL.p rfl rfl rfl (P.assign rfl) ?_
              refine WL.nil_ ?_
              refine End.seq ?_
              refine WC.ret ?_
              refine End.ret1 rfl rfl ?_
              exact fun w' hs' => RetV.of (by rw [decide_eq_false (fun e => hs45 (by rw [e]))]) hs'
          ·
            try simp only [decide_eq_true_eq, decide_eq_false_iff_not, beq_iff_eq, beq_eq_false_iff_ne, bne_iff_ne, bne_eq_false_iff_eq, Bool.not_eq_true', Bool.not_eq_false', ne_eq, Int.not_lt, Int.not_le] at hs38
            refine WL.off rfl rfl ?_
            refine WL.off rfl rfl ?_
            refine WL.off rfl rfl ?_
            refine WL.off rfl rfl ?_
            refine WL.off rfl rfl ?_
            refine WL.p rfl rfl rfl (P.pickF rfl rfl) ?_
            refine WL.p rfl rfl rfl (P.move rfl) ?_
            refine WL.off rfl rfl ?_
            refine WL.off rfl rfl ?_
            refine WL.off rfl rfl ?_
            refine WL.off rfl rfl ?_
            refine WL.off rfl rfl ?_
            refine WL.p rfl rfl rfl (P.pickF rfl rfl) ?_
            refine WL.p rfl rfl rfl (P.move rfl) ?_
            refine WL.off rfl rfl ?_
            refine WL.off rfl rfl ?_
            refine WL.off rfl rfl ?_
            refine WL.off rfl rfl ?_
            refine WL.off rfl rfl ?_
            refine WL.p rfl rfl rfl (P.pickF rfl rfl) ?_
            refine WL.p rfl rfl rfl (P.move rfl) ?_
            refine WL.off rfl rfl ?_
            refine WL.off rfl rfl ?_
            refine WL.off rfl rfl ?_
            refine WL.off rfl rfl ?_
            refine WL.off rfl rfl ?_
            refine WL.p rfl rfl rfl (P.pickF rfl rfl) ?_
            refine WL.p rfl rfl rfl (P.move rfl) ?_
            refine WL.off rfl rfl ?_
            refine WL.off rfl rfl ?_
            refine WL.off rfl rfl ?_
            refine WL.off rfl rfl ?_
            refine WL.off rfl rfl ?_
            refine WL.p rfl rfl rfl (P.pickF rfl rfl) ?_
            refine WL.p rfl rfl rfl (P.move rfl) ?_
            refine WL.off rfl rfl ?_
            refine WL.off rfl rfl ?_
            refine WL.off rfl rfl ?_
            refine WL.off rfl rfl ?_
            refine WL.off rfl rfl ?_
            refine WL.p rfl rfl rfl (P.pickF rfl rfl) ?_
            refine WL.p rfl rfl rfl (P.move rfl) ?_
            refine WL.off rfl rfl ?_
            refine WL.off rfl rfl ?_
            refine WL.off rfl rfl ?_
            refine WL.off rfl rfl ?_
            refine WL.off rfl rfl ?_
            refine WL.p rfl rfl rfl (P.pickF rfl rfl) ?_
            refine WL.p rfl rfl rfl (P.move rfl) ?_
            refine WL.off rfl rfl ?_
            refine WL.off rfl rfl ?_
            refine WL.off rfl rfl ?_
            refine WL.off rfl rfl ?_
            refine WL.off rfl rfl ?_
            refine WL.p rfl rfl rfl (P.pickF rfl rfl) ?_
            refine WL.p rfl rfl rfl (P.assign rfl) ?_
            refine WL.nil_ ?_
            refine End.seq ?_
            refine WC.ret ?_
            refine End.ret1 rfl rfl ?_
            exact fun w' hs' => RetV.of (by rw [decide_eq_false (fun e => hs38 (by rw [e]))]) hs'
        ·
          try simp only [decide_eq_true_eq, decide_eq_false_iff_not, beq_iff_eq, beq_eq_false_iff_ne, bne_iff_ne, bne_eq_false_iff_eq, Bool.not_eq_true', Bool.not_eq_false', ne_eq, Int.not_lt, Int.not_le] at hs31
          refine WL.off rfl rfl ?_
          refine WL.off rfl rfl ?_
          refine WL.off rfl rfl ?_
          refine WL.off rfl rfl ?_
          refine WL.off rfl rfl ?_
          refine WL.p rfl rfl rfl (P.pickF rfl rfl) ?_
          refine WL.p rfl rfl rfl (P.move rfl) ?_
          refine WL.off rfl rfl ?_
          refine WL.off rfl rfl ?_
          refine WL.off rfl rfl ?_
          refine WL.off rfl rfl ?_
          refine WL.off rfl rfl ?_
          refine WL.p rfl rfl rfl (P.pickF rfl rfl) ?_
          refine WL.p rfl rfl rfl (P.move rfl) ?_
          refine WL.off rfl rfl ?_
          refine WL.off rfl rfl ?_
          refine WL.off rfl rfl ?_
          refine WL.off rfl rfl ?_
          refine WL.off rfl rfl ?_
          refine WL.p rfl rfl rfl (P.pickF rfl rfl) ?_
          refine WL.p rfl rfl rfl (P.move rfl) ?_
          refine WL.off rfl rfl ?_
          refine WL.off rfl rfl ?_
          refine WL.off rfl rfl ?_
          refine WL.off rfl rfl ?_
          refine WL.off rfl rfl ?_
          refine WL.p rfl rfl rfl (P.pickF rfl rfl) ?_
          refine WL.p rfl rfl rfl (P.move rfl) ?_
          refine WL.off rfl rfl ?_
          refine WL.off rfl rfl ?_
          refine WL.off rfl rfl ?_
          refine WL.off rfl rfl ?_
          refine WL.off rfl rfl ?_
          refine WL.p rfl rfl rfl (P.pickF rfl rfl) ?_
          refine WL.p rfl rfl rfl (P.move rfl) ?_
          refine WL.off rfl rfl ?_
          refine WL.off rfl rfl ?_
          refine WL.off rfl rfl ?_
          refine WL.off rfl rfl ?_
          refine WL.off rfl rfl ?_
          refine WL.p rfl rfl rfl (P.pickF rfl rfl) ?_
          refine WL.p rfl rfl rfl (P.move rfl) ?_
          refine WL.off rfl rfl ?_
          refine WL.off rfl rfl ?_
          refine WL.off rfl rfl ?_
          refine WL.off rfl rfl ?_
          refine WL.off rfl rfl ?_
          refine WL.p rfl rfl rfl (P.pickF rfl rfl) ?_
          refine WL.p rfl rfl rfl (P.move rfl) ?_
          refine WL.off rfl rfl ?_
          refine WL.off rfl rfl ?_
          refine WL.off rfl rfl ?_
          refine WL.off rfl rfl ?_
          refine WL.off rfl rfl ?_
          refine WL.p rfl rfl rfl (P.pickF rfl rfl) ?_
          refine WL.p rfl rfl rfl (P.move rfl) ?_
          refine WL.off rfl rfl ?_
          refine WL.off rfl rfl ?_
          refine WL.off rfl rfl ?_
          refine WL.off rfl rfl ?_
          refine WL.off rfl rfl ?_
          refine WL.p rfl rfl rfl (P.pickF rfl rfl) ?_
          refine WL.p rfl rfl rfl (P.assign rfl) ?_
          refine WL.nil_ ?_
          refine End.seq ?_
          refine WC.ret ?_
          refine End.ret1 rfl rfl ?_
          exact fun w' hs' => RetV.of (by rw [decide_eq_false (fun e => hs31 (by rw [e]))]) hs'
      ·
        try simp only [decide_eq_true_eq, decide_eq_false_iff_not, beq_iff_eq, beq_eq_false_iff_ne, bne_iff_ne, bne_eq_false_iff_eq, Bool.not_eq_true', Bool.not_eq_false', ne_eq, Int.not_lt, Int.not_le] at hs24
        refine WL.off rfl rfl ?_
        refine WL.off rfl rfl ?_
        refine WL.off rfl rfl ?_
        refine WL.off rfl rfl ?_
        refine WL.off rfl rfl ?_
        refine WL.p rfl rfl rfl (P.pickF rfl rfl) ?_
        refine WL.p rfl rfl rfl (P.move rfl) ?_
        refine WL.off rfl rfl ?_
        refine WL.off rfl rfl ?_
        refine WL.off rfl rfl ?_
        refine WL.off rfl rfl ?_
        refine WL.off rfl rfl ?_
        refine WL.p rfl rfl rfl (P.pickF rfl rfl) ?_
        refine WL.p rfl rfl rfl (P.move rfl) ?_
        refine WL.off rfl rfl ?_
        refine WL.off rfl rfl ?_
        refine WL.off rfl rfl ?_
        refine WL.off rfl rfl ?_
        refine WL.off rfl rfl ?_
        refine WL.p rfl rfl rfl (P.pickF rfl rfl) ?_
        refine WL.p rfl rfl rfl (P.move rfl) ?_
        refine WL.off rfl rfl ?_
        refine WL.off rfl rfl ?_
        refine WL.off rfl rfl ?_
        refine WL.off rfl rfl ?_
        refine WL.off rfl rfl ?_
        refine WL.p rfl rfl rfl (P.pickF rfl rfl) ?_
        refine WL.p rfl rfl rfl (P.move rfl) ?_
        refine WL.off rfl rfl ?_
        refine WL.off rfl rfl ?_
        refine WL.off rfl rfl ?_
        refine WL.off rfl rfl ?_
        refine WL.off rfl rfl ?_
        refine WL.p rfl rfl rfl (P.pickF rfl rfl) ?_
        refine WL.p rfl rfl rfl (P.move rfl) ?_
        refine WL.off rfl rfl ?_
        refine WL.off rfl rfl ?_
        refine WL.off rfl rfl ?_
        refine WL.off rfl rfl ?_
        refine WL.off rfl rfl ?_
        refine WL.p rfl rfl rfl (P.pickF rfl rfl) ?_
        refine WL.p rfl rfl rfl (P.move rfl) ?_
        refine WL.off rfl rfl ?_
        refine WL.off rfl rfl ?_
        refine WL.off rfl rfl ?_
        refine WL.off rfl rfl ?_
        refine WL.off rfl rfl ?_
        refine WL.p rfl rfl rfl (P.pickF rfl rfl) ?_
        refine WL.p rfl rfl rfl (P.move rfl) ?_
        refine WL.off rfl rfl ?_
        refine WL.off rfl rfl ?_
        refine WL.off rfl rfl ?_
        refine WL.off rfl rfl ?_
        refine WL.off rfl rfl ?_
        refine WL.p rfl rfl rfl (P.pickF rfl rfl) ?_
        refine WL.p rfl rfl rfl (P.move rfl) ?_
        refine WL.off rfl rfl ?_
        refine WL.off rfl rfl ?_
        refine WL.off rfl rfl ?_
        refine WL.off rfl rfl ?_
        refine WL.off rfl rfl ?_
        refine WL.p rfl rfl rfl (P.pickF rfl rfl) ?_
        refine WL.p rfl rfl rfl (P.move rfl) ?_
        refine WL.off rfl rfl ?_
        refine WL.off rfl rfl ?_
        refine WL.off rfl rfl ?_
        refine WL.off rfl rfl ?_
        refine WL.off rfl rfl ?_
        refine WL.p rfl rfl rfl (P.pickF rfl rfl) ?_
        refine WL.p rfl rfl rfl (P.assign rfl) ?_
        refine WL.nil_ ?_
        refine End.seq ?_
        refine WC.ret ?_
        refine End.ret1 rfl rfl ?_
        exact fun w' hs' => RetV.of (by rw [decide_eq_false (fun e => hs24 (by rw [e]))]) hs'
    ·
      try simp only [decide_eq_true_eq, decide_eq_false_iff_not, beq_iff_eq, beq_eq_false_iff_ne, bne_iff_ne, bne_eq_false_iff_eq, Bool.not_eq_true', Bool.not_eq_false', ne_eq, Int.not_lt, Int.not_le] at hs17
      refine WL.off rfl rfl ?_
      refine WL.off rfl rfl ?_
      refine WL.off rfl rfl ?_
      refine WL.off rfl rfl ?_
      refine WL.off rfl rfl ?_
      refine WL.p rfl rfl rfl (P.pickF rfl rfl) ?_
      refine WL.p rfl rfl rfl (P.move rfl) ?_
      refine WL.off rfl rfl ?_
      refine WL.off rfl rfl ?_
      refine WL.off rfl rfl ?_
      refine WL.off rfl rfl ?_
      refine WL.off rfl rfl ?_
      refine WL.p rfl rfl rfl (P.pickF rfl rfl) ?_
      refine WL.p rfl rfl rfl (P.move rfl) ?_
      refine WL.off rfl rfl ?_
      refine WL.off rfl rfl ?_
      refine WL.off rfl rfl ?_
      refine WL.off rfl rfl ?_
      refine WL.off rfl rfl ?_
      refine WL.p rfl rfl rfl (P.pickF rfl rfl) ?_
      refine WL.p rfl rfl rfl (P.move rfl) ?_
      refine WL.off rfl rfl ?_
      refine WL.off rfl rfl ?_
      refine WL.off rfl rfl ?_
      refine WL.off rfl rfl ?_
      refine WL.off rfl rfl ?_
      refine WL.p rfl rfl rfl (P.pickF rfl rfl) ?_
      refine WL.p rfl rfl rfl (P.move rfl) ?_
      refine WL.off rfl rfl ?_
      refine WL.off rfl rfl ?_
      refine WL.off rfl rfl ?_
      refine WL.off rfl rfl ?_
      refine WL.off rfl rfl ?_
      refine WL.p rfl rfl rfl (P.pickF rfl rfl) ?_
      refine WL.p rfl rfl rfl (P.move rfl) ?_
      refine WL.off rfl rfl ?_
      refine WL.off rfl rfl ?_
      refine WL.off rfl rfl ?_
      refine WL.off rfl rfl ?_
      refine WL.off rfl rfl ?_
      refine WL.p rfl rfl rfl (P.pickF rfl rfl) ?_
      refine WL.p rfl rfl rfl (P.move rfl) ?_
      refine WL.off rfl rfl ?_
      refine WL.off rfl rfl ?_
      refine WL.off rfl rfl ?_
      refine WL.off rfl rfl ?_
      refine WL.off rfl rfl ?_
      refine WL.p rfl rfl rfl (P.pickF rfl rfl) ?_
      refine WL.p rfl rfl rfl (P.move rfl) ?_
      refine WL.off rfl rfl ?_
      refine WL.off rfl rfl ?_
      refine WL.off rfl rfl ?_
      refine WL.off rfl rfl ?_
      refine WL.off rfl rfl ?_
      refine WL.p rfl rfl rfl (P.pickF rfl rfl) ?_
      refine WL.p rfl rfl rfl (P.move rfl) ?_
      refine WL.off rfl rfl ?_
      refine WL.off rfl rfl ?_
      refine WL.off rfl rfl ?_
      refine WL.off rfl rfl ?_
      refine WL.off rfl rfl ?_
      refine WL.p rfl rfl rfl (P.pickF rfl rfl) ?_
      refine WL.p rfl rfl rfl (P.move rfl) ?_
      refine WL.off rfl rfl ?_
      refine WL.off rfl rfl ?_
      refine WL.off rfl rfl ?_
      refine WL.off rfl rfl ?_
      refine WL.off rfl rfl ?_
      refine WL.p rfl rfl rfl (P.pickF rfl rfl) ?_
      refine WL.p rfl rfl rfl (P.move rfl) ?_
      refine WL.off rfl rfl ?_
      refine WL.off rfl rfl ?_
      refine WL.off rfl rfl ?_
      refine WL.off rfl rfl ?_
      refine WL.off rfl rfl ?_
      refine WL.p rfl rfl rfl (P.pickF rfl rfl) ?_
      refine WL.p rfl rfl rfl (P.assign rfl) ?_
      refine WL.nil_ ?_
      refine End.seq ?_
      refine WC.ret ?_
      refine End.ret1 rfl rfl ?_
      exact fun w' hs' => RetV.of (by rw [decide_eq_false (fun e => hs17 (by rw [e]))]) hs'
  ·
    try simp only [decide_eq_true_eq, decide_eq_false_iff_not, beq_iff_eq, beq_eq_false_iff_ne, bne_iff_ne, bne_eq_false_iff_eq, Bool.not_eq_true', Bool.not_eq_false', ne_eq, Int.not_lt, Int.not_le] at hs10
    refine WL.off rfl rfl ?_
    refine WL.off rfl rfl ?_
    refine WL.off rfl rfl ?_
    refine WL.off rfl rfl ?_
    refine WL.off rfl rfl ?_
    refine WL.p rfl rfl rfl (P.pickF rfl rfl) ?_
    refine WL.p rfl rfl rfl (P.move rfl) ?_
    refine WL.off rfl rfl ?_
    refine WL.off rfl rfl ?_
    refine WL.off rfl rfl ?_
    refine WL.off rfl rfl ?_
    refine WL.off rfl rfl ?_
    refine WL.p rfl rfl rfl (P.pickF rfl rfl) ?_
    refine WL.p rfl rfl rfl (P.move rfl) ?_
    refine WL.off rfl rfl ?_
    refine WL.off rfl rfl ?_
    refine WL.off rfl rfl ?_
    refine WL.off rfl rfl ?_
    refine WL.off rfl rfl ?_
    refine WL.p rfl rfl rfl (P.pickF rfl rfl) ?_
    refine WL.p rfl rfl rfl (P.move rfl) ?_
    refine WL.off rfl rfl ?_
    refine WL.off rfl rfl ?_
    refine WL.off rfl rfl ?_
    refine WL.off rfl rfl ?_
    refine WL.off rfl rfl ?_
    refine WL.p rfl rfl rfl (P.pickF rfl rfl) ?_
    refine WL.p rfl rfl rfl (P.move rfl) ?_
    refine WL.off rfl rfl ?_
    refine WL.off rfl rfl ?_
    refine WL.off rfl rfl ?_
    refine WL.off rfl rfl ?_
    refine WL.off rfl rfl ?_
    refine WL.p rfl rfl rfl (P.pickF rfl rfl) ?_
    refine WL.p rfl rfl rfl (P.move rfl) ?_
    refine WL.off rfl rfl ?_
    refine WL.off rfl rfl ?_
    refine WL.off rfl rfl ?_
    refine WL.off rfl rfl ?_
    refine WL.off rfl rfl ?_
    refine WL.p rfl rfl rfl (P.pickF rfl rfl) ?_
    refine WL.p rfl rfl rfl (P.move rfl) ?_
    refine WL.off rfl rfl ?_
    refine WL.off rfl rfl ?_
    refine WL.off rfl rfl ?_
    refine WL.off rfl rfl ?_
    refine WL.off rfl rfl ?_
    refine WL.p rfl rfl rfl (P.pickF rfl rfl) ?_
    refine WL.p rfl rfl rfl (P.move rfl) ?_
    refine WL.off rfl rfl ?_
    refine WL.off rfl rfl ?_
    refine WL.off rfl rfl ?_
    refine WL.off rfl rfl ?_
    refine WL.off rfl rfl ?_
    refine WL.p rfl rfl rfl (P.pickF rfl rfl) ?_
    refine WL.p rfl rfl rfl (P.move rfl) ?_
    refine WL.off rfl rfl ?_
    refine WL.off rfl rfl ?_
    refine WL.off rfl rfl ?_
    refine WL.off rfl rfl ?_
    refine WL.off rfl rfl ?_
    refine WL.p rfl rfl rfl (P.pickF rfl rfl) ?_
    refine WL.p rfl rfl rfl (P.move rfl) ?_
    refine WL.off rfl rfl ?_
    refine WL.off rfl rfl ?_
    refine WL.off rfl rfl ?_
    refine WL.off rfl rfl ?_
    refine WL.off rfl rfl ?_
    refine WL.p rfl rfl rfl (P.pickF rfl rfl) ?_
    refine WL.p rfl rfl rfl (P.move rfl) ?_
    refine WL.off rfl rfl ?_
    refine WL.off rfl rfl ?_
    refine WL.off rfl rfl ?_
    refine WL.off rfl rfl ?_
    refine WL.off rfl rfl ?_
    refine WL.p rfl rfl rfl (P.pickF rfl rfl) ?_
    refine WL.p rfl rfl rfl (P.move rfl) ?_
    refine WL.off rfl rfl ?_
    refine WL.off rfl rfl ?_
    refine WL.off rfl rfl ?_
    refine WL.off rfl rfl ?_
    refine WL.off rfl rfl ?_
    refine WL.p rfl rfl rfl (P.pickF rfl rfl) ?_
    refine WL.p rfl rfl rfl (P.assign rfl) ?_
    refine WL.nil_ ?_
    refine End.seq ?_
    refine WC.ret ?_
    refine End.ret1 rfl rfl ?_
    exact fun w' hs' => RetV.of (by rw [decide_eq_false (fun e => hs10 (by rw [e]))]) hs'



theorem sameL2 {a b : E} (h0 : a.kind = b.kind) (h1 : a.name.toList = b.name.toList) (h2 : a.ds = b.ds) (h3 : a.alt = b.alt) (h4 : a.used = b.used) (h5 : a.limit = b.limit) (h6 : a.last = b.last) (h7 : a.empty = b.empty) (h8 : a.owner.toList = b.owner.toList) (h9 : a.target.toList = b.target.toList) (h10 : a.catalog = b.catalog) (h11 : a.grants = b.grants) : (a.level == b.level) = decide (a = b) := by
  have e1 := toList_inj.1 h1
  have e8 := toList_inj.1 h8
  have e9 := toList_inj.1 h9
  cases a; cases b
  simp only [E.mk.injEq] at *
  simp only [h0, h2, h3, h4, h5, h6, h7, h10, h11, e1, e8, e9, true_and, and_true]
  exact Bool.beq_eq_decide_eq _ _

set_option maxRecDepth 100000 in
theorem refSame_any (a b : E) (va vg ub ug : Value) (w : World) (ha : EntAt w a va vg) (hb : EntAt w b ub ug) :
    Calls Tryz.prog 32 #[.agg (a.cells va vg), .agg (b.cells ub ug)] w (RetV w (.bool (decide (a = b)))) := by
  obtain ⟨⟨A1, c1, rfl, hc1, hr1⟩, ⟨A2, c2, rfl, hc2, hr2⟩⟩ := ha
  obtain ⟨⟨A3, c3, rfl, hc3, hr3⟩, ⟨A4, c4, rfl, hc4, hr4⟩⟩ := hb
  have hl2 := hr2.1
  have hl4 := hr4.1
  refine enter Tryz.func32 rfl Tryz.ntmps32 rfl ?_
  refine WC.seq ?_
  refine WC.region ?_
  refine WL.box rfl rfl rfl (fun b2 => ?_)
  refine WL.box rfl rfl rfl (fun b3 => ?_)
  refine WL.p rfl rfl rfl (P.assign rfl) ?_
  refine WL.nil_ ?_
  refine End.seq ?_
  refine WC.seq ?_
  refine WC.seq ?_
  refine WC.region ?_
  refine WL.p rfl rfl rfl (P.fieldAddr fa_34_12 rfl) ?_
  refine WL.p rfl rfl rfl (P.loadO 1 Tryz.isAgg32 rfl rfl rfl) ?_
  refine WL.p rfl rfl rfl (P.lenR Tryz.underlying32 rfl) ?_
  refine WL.p rfl rfl rfl (P.fieldAddr fa_34_12 rfl) ?_
  refine WL.p rfl rfl rfl (P.loadO 0 Tryz.isAgg32 rfl rfl rfl) ?_
  refine WL.p rfl rfl rfl (P.lenR Tryz.underlying32 rfl) ?_
  refine WL.p rfl rfl rfl (P.cmp rfl rfl rfl) ?_
  refine WL.nil_ ?_
  refine End.seq ?_
  refine WC.cond rfl (fun hc12 => ?_) (fun hc12 => ?_)
  ·
    try simp only [decide_eq_true_eq, decide_eq_false_iff_not, beq_iff_eq, beq_eq_false_iff_ne, bne_iff_ne, bne_eq_false_iff_eq, Bool.not_eq_true', Bool.not_eq_false', ne_eq, Int.not_lt, Int.not_le] at hc12
    refine WC.seq ?_
    refine WC.region ?_
    refine WL.p rfl rfl rfl (P.assign rfl) ?_
    refine WL.nil_ ?_
    refine End.seq ?_
    refine WC.ret ?_
    refine End.thenR ?_
    refine End.ret1 rfl rfl ?_
    exact fun w' hs' => RetV.of (by rw [decide_eq_false (fun e => hc12 (by rw [e]))]) hs'
  ·
    try simp only [decide_eq_true_eq, decide_eq_false_iff_not, beq_iff_eq, beq_eq_false_iff_ne, bne_iff_ne, bne_eq_false_iff_eq, Bool.not_eq_true', Bool.not_eq_false', ne_eq, Int.not_lt, Int.not_le] at hc12
    refine WC.skip ?_
    refine End.seq ?_
    refine WC.seq ?_
    refine WC.seq ?_
    refine WC.region ?_
    refine WL.p rfl rfl rfl (P.assign rfl) ?_
    refine WL.nil_ ?_
    refine End.seq ?_
    refine WC.block ?_
    refine WC.loopD (σ := Nat) (fun k => [(5, .int .i64 k)]) (fun k => _) (fun k => k ≤ a.grants.length ∧ a.grants.take k = b.grants.take k) (fun k => a.grants.length - k) 0 ⟨Nat.zero_le _, rfl⟩ (Env.sub_cons rfl (Env.sub_nil)) [0, 1] rfl rfl ?_
    rintro k ⟨hk, ht⟩
    refine WC.seq ?_
    refine WC.seq ?_
    refine WC.region ?_
    refine WL.p rfl rfl rfl (P.move rfl) ?_
    refine WL.p rfl rfl rfl (P.fieldAddr fa_34_12 rfl) ?_
    refine WL.p rfl rfl rfl (P.loadO 1 Tryz.isAgg32 rfl rfl rfl) ?_
    refine WL.p rfl rfl rfl (P.lenR Tryz.underlying32 rfl) ?_
    refine WL.p rfl rfl rfl (P.cmp rfl rfl rfl) ?_
    refine WL.nil_ ?_
    refine End.seq ?_
    refine WC.cond rfl (fun hc17 => ?_) (fun hc17 => ?_)
    ·
      try simp only [decide_eq_true_eq, decide_eq_false_iff_not, beq_iff_eq, beq_eq_false_iff_ne, bne_iff_ne, bne_eq_false_iff_eq, Bool.not_eq_true', Bool.not_eq_false', ne_eq, Int.not_lt, Int.not_le] at hc17
      obtain ⟨bb, off, rfl, hcx⟩ := hr2.at_ (by omega)
      obtain ⟨bb', off', rfl, hcy⟩ := hr4.at_ (by omega)
      obtain ⟨x, hx⟩ := get_of_lt (xs := a.grants) (k := k) (by omega)
      obtain ⟨y, hy⟩ := get_of_lt (xs := b.grants) (k := k) (by omega)
      refine WC.skip ?_
      refine End.seq ?_
      refine WC.seq ?_
      refine WC.block ?_
      refine WC.seq ?_
      refine WC.quiet (by kernel_rfl) ?_
      refine WQ.p rfl rfl rfl (P.fieldAddr fa_34_12 rfl) ?_
      refine WQ.p rfl rfl rfl (P.loadO 1 Tryz.isAgg32 rfl rfl rfl) ?_
      refine WQ.p rfl rfl rfl (P.move rfl) ?_
      refine WQ.p rfl rfl rfl (P.elemAddr Tryz.underlying32 Tryz.sizeOf51 rfl rfl (by omega) (by omega)) ?_
      refine WQ.p rfl rfl rfl (P.loadBA (vs := (Gr.cells x).toArray) Tryz.isAgg51 Tryz.sizeOf51 rfl rfl (fun j v hv => hcx k x hx j v (by simpa [Gr.cells] using hv))) ?_
      refine WQ.p rfl rfl rfl (P.fieldAddr fa_34_12 rfl) ?_
      refine WQ.p rfl rfl rfl (P.loadO 0 Tryz.isAgg32 rfl rfl rfl) ?_
      refine WQ.p rfl rfl rfl (P.move rfl) ?_
      refine WQ.p rfl rfl rfl (P.elemAddr Tryz.underlying32 Tryz.sizeOf51 rfl rfl (by omega) (by omega)) ?_
      refine WQ.p rfl rfl rfl (P.loadBA (vs := (Gr.cells y).toArray) Tryz.isAgg51 Tryz.sizeOf51 rfl rfl (fun j v hv => hcy k y hy j v (by simpa [Gr.cells] using hv))) ?_
      refine WQ.p rfl rfl rfl (P.neAgg egt51 rfl rfl (fun w => eq51 _ _ w)) ?_
      refine WQ.nil_ ?_
      refine End.seq ?_
      refine WC.cond rfl (fun hc30 => ?_) (fun hc30 => ?_)
      ·
        try simp only [decide_eq_true_eq, decide_eq_false_iff_not, beq_iff_eq, beq_eq_false_iff_ne, bne_iff_ne, bne_eq_false_iff_eq, Bool.not_eq_true', Bool.not_eq_false', ne_eq, Int.not_lt, Int.not_le] at hc30
        refine WC.seq ?_
        refine WC.region ?_
        refine WL.p rfl rfl rfl (P.assign rfl) ?_
        refine WL.nil_ ?_
        refine End.seq ?_
        refine WC.ret ?_
        refine End.blkR ?_
        refine End.thenR ?_
        refine End.thenR ?_
        refine End.blkR ?_
        refine End.thenR ?_
        refine End.ret1 rfl rfl ?_
        exact fun w' hs' => RetV.of (by rw [decide_eq_false (fun e => hc30 (by rw [e, hy] at hx; exact (Option.some.inj hx).symm))]) hs'
      ·
        try simp only [decide_eq_true_eq, decide_eq_false_iff_not, beq_iff_eq, beq_eq_false_iff_ne, bne_iff_ne, bne_eq_false_iff_eq, Bool.not_eq_true', Bool.not_eq_false', ne_eq, Int.not_lt, Int.not_le] at hc30
        refine WC.skip ?_
        refine End.blkN ?_
        refine End.seq ?_
        refine WC.region ?_
        refine WL.p rfl rfl rfl (P.move rfl) ?_
        refine WL.p rfl rfl rfl (P.ari64 rfl rfl rfl (by omega)) ?_
        refine WL.p rfl rfl rfl (P.assign rfl) ?_
        refine WL.nil_ ?_
        refine End.againD (k + 1) ?_ ?_ rfl (Env.sub_cons rfl (Env.sub_nil)) rfl [0, 1] rfl rfl
        · exact ⟨by omega, by rw [take_snoc hx, take_snoc hy, ht, hc30]⟩
        · omega
    ·
      try simp only [decide_eq_true_eq, decide_eq_false_iff_not, beq_iff_eq, beq_eq_false_iff_ne, bne_iff_ne, bne_eq_false_iff_eq, Bool.not_eq_true', Bool.not_eq_false', ne_eq, Int.not_lt, Int.not_le] at hc17
      have eg : a.grants = b.grants := by rw [List.take_of_length_le (by omega), List.take_of_length_le (by omega)] at ht; exact ht
      refine WC.exit ?_
      refine End.thenX ?_
      refine End.thenX ?_
      refine End.blkX ?_
      refine End.seq ?_
      refine WC.seq ?_
      refine WC.region ?_
      refine WL.p rfl rfl rfl (P.fieldAddr fa_34_0 rfl) ?_
      refine WL.p rfl rfl rfl (P.loadO 1 Tryz.isAgg3 rfl rfl rfl) ?_
      refine WL.p rfl rfl rfl (P.fieldAddr fa_34_0 rfl) ?_
      refine WL.p rfl rfl rfl (P.loadO 0 Tryz.isAgg3 rfl rfl rfl) ?_
      refine WL.p rfl rfl rfl (P.cmp rfl rfl rfl) ?_
      refine WL.p rfl rfl rfl (P.move rfl) ?_
      refine WL.split 36 rfl (fun hs36 => ?_) (fun hs36 => ?_)
      ·
        try simp only [decide_eq_true_eq, decide_eq_false_iff_not, beq_iff_eq, beq_eq_false_iff_ne, bne_iff_ne, bne_eq_false_iff_eq, Bool.not_eq_true', Bool.not_eq_false', ne_eq, Int.not_lt, Int.not_le] at hs36
        refine WL.p rfl rfl rfl (P.fieldAddr fa_34_1 rfl) ?_
        refine WL.p rfl rfl rfl (P.loadO 1 Tryz.isAgg9 rfl rfl rfl) ?_
        refine WL.p rfl rfl rfl (P.fieldAddr fa_34_1 rfl) ?_
        refine WL.p rfl rfl rfl (P.loadO 0 Tryz.isAgg9 rfl rfl rfl) ?_
        refine WL.p rfl rfl rfl (P.cmps rfl rfl rfl) ?_
        refine WL.p rfl rfl rfl (P.pickT rfl rfl) ?_
        refine WL.p rfl rfl rfl (P.move rfl) ?_
        refine WL.split 43 rfl (fun hs43 => ?_) (fun hs43 => ?_)
        ·
          try simp only [decide_eq_true_eq, decide_eq_false_iff_not, beq_iff_eq, beq_eq_false_iff_ne, bne_iff_ne, bne_eq_false_iff_eq, Bool.not_eq_true', Bool.not_eq_false', ne_eq, Int.not_lt, Int.not_le] at hs43
          refine WL.p rfl rfl rfl (P.fieldAddr fa_34_2 rfl) ?_
          refine WL.p rfl rfl rfl (P.loadA 1 (vs := a.ds.cells) Tryz.isAgg31 Tryz.sizeOf31 rfl rfl rfl (E.ds_get a _ _)) ?_
          refine WL.p rfl rfl rfl (P.fieldAddr fa_34_2 rfl) ?_
          refine WL.p rfl rfl rfl (P.loadA 0 (vs := b.ds.cells) Tryz.isAgg31 Tryz.sizeOf31 rfl rfl rfl (E.ds_get b _ _)) ?_
          refine WL.p rfl rfl rfl (P.eqAgg egt31 rfl rfl (fun w => eq31 _ _ w)) ?_
          refine WL.p rfl rfl rfl (P.pickT rfl rfl) ?_
          refine WL.p rfl rfl rfl (P.move rfl) ?_
          refine WL.split 50 rfl (fun hs50 => ?_) (fun hs50 => ?_)
          ·
            try simp only [decide_eq_true_eq, decide_eq_false_iff_not, beq_iff_eq, beq_eq_false_iff_ne, bne_iff_ne, bne_eq_false_iff_eq, Bool.not_eq_true', Bool.not_eq_false', ne_eq, Int.not_lt, Int.not_le] at hs50
            refine WL.p rfl rfl rfl (P.fieldAddr fa_34_3 rfl) ?_
            refine WL.p rfl rfl rfl (P.loadO 1 Tryz.isAgg22 rfl rfl rfl) ?_
            refine WL.p rfl rfl rfl (P.fieldAddr fa_34_3 rfl) ?_
            refine WL.p rfl rfl rfl (P.loadO 0 Tryz.isAgg22 rfl rfl rfl) ?_
            refine WL.callv (ent_of Tryz.func33 rfl rfl) rfl rfl rfl (fun w hs => ints_any _ _ _ _ _ _ w (hr1.st hs) (hr3.st hs)) ?_
            refine WL.p rfl rfl rfl (P.pickT rfl rfl) ?_
            refine WL.p rfl rfl rfl (P.move rfl) ?_
            refine WL.split 57 rfl (fun hs57 => ?_) (fun hs57 => ?_)
            ·
              try simp only [decide_eq_true_eq, decide_eq_false_iff_not, beq_iff_eq, beq_eq_false_iff_ne, bne_iff_ne, bne_eq_false_iff_eq, Bool.not_eq_true', Bool.not_eq_false', ne_eq, Int.not_lt, Int.not_le] at hs57
              refine WL.p rfl rfl rfl (P.fieldAddr fa_34_4 rfl) ?_
              refine WL.p rfl rfl rfl (P.loadO 1 Tryz.isAgg3 rfl rfl rfl) ?_
              refine WL.p rfl rfl rfl (P.fieldAddr fa_34_4 rfl) ?_
              refine WL.p rfl rfl rfl (P.loadO 0 Tryz.isAgg3 rfl rfl rfl) ?_
              refine WL.p rfl rfl rfl (P.cmp rfl rfl rfl) ?_
              refine WL.p rfl rfl rfl (P.pickT rfl rfl) ?_
              refine WL.p rfl rfl rfl (P.move rfl) ?_
              refine WL.split 64 rfl (fun hs64 => ?_) (fun hs64 => ?_)
              ·
                try simp only [decide_eq_true_eq, decide_eq_false_iff_not, beq_iff_eq, beq_eq_false_iff_ne, bne_iff_ne, bne_eq_false_iff_eq, Bool.not_eq_true', Bool.not_eq_false', ne_eq, Int.not_lt, Int.not_le] at hs64
                refine WL.p rfl rfl rfl (P.fieldAddr fa_34_5 rfl) ?_
                refine WL.p rfl rfl rfl (P.loadO 1 Tryz.isAgg3 rfl rfl rfl) ?_
                refine WL.p rfl rfl rfl (P.fieldAddr fa_34_5 rfl) ?_
                refine WL.p rfl rfl rfl (P.loadO 0 Tryz.isAgg3 rfl rfl rfl) ?_
                refine WL.p rfl rfl rfl (P.cmp rfl rfl rfl) ?_
                refine WL.p rfl rfl rfl (P.pickT rfl rfl) ?_
                refine WL.p rfl rfl rfl (P.move rfl) ?_
                refine WL.split 71 rfl (fun hs71 => ?_) (fun hs71 => ?_)
                ·
                  try simp only [decide_eq_true_eq, decide_eq_false_iff_not, beq_iff_eq, beq_eq_false_iff_ne, bne_iff_ne, bne_eq_false_iff_eq, Bool.not_eq_true', Bool.not_eq_false', ne_eq, Int.not_lt, Int.not_le] at hs71
                  refine WL.p rfl rfl rfl (P.fieldAddr fa_34_6 rfl) ?_
                  refine WL.p rfl rfl rfl (P.loadO 1 Tryz.isAgg3 rfl rfl rfl) ?_
                  refine WL.p rfl rfl rfl (P.fieldAddr fa_34_6 rfl) ?_
                  refine WL.p rfl rfl rfl (P.loadO 0 Tryz.isAgg3 rfl rfl rfl) ?_
                  refine WL.p rfl rfl rfl (P.cmp rfl rfl rfl) ?_
                  refine WL.p rfl rfl rfl (P.pickT rfl rfl) ?_
                  refine WL.p rfl rfl rfl (P.move rfl) ?_
                  refine WL.split 78 rfl (fun hs78 => ?_) (fun hs78 => ?_)
                  ·
                    try simp only [decide_eq_true_eq, decide_eq_false_iff_not, beq_iff_eq, beq_eq_false_iff_ne, bne_iff_ne, bne_eq_false_iff_eq, Bool.not_eq_true', Bool.not_eq_false', ne_eq, Int.not_lt, Int.not_le] at hs78
                    refine WL.p rfl rfl rfl (P.fieldAddr fa_34_7 rfl) ?_
                    refine WL.p rfl rfl rfl (P.loadO 1 Tryz.isAgg4 rfl rfl rfl) ?_
                    refine WL.p rfl rfl rfl (P.fieldAddr fa_34_7 rfl) ?_
                    refine WL.p rfl rfl rfl (P.loadO 0 Tryz.isAgg4 rfl rfl rfl) ?_
                    refine WL.p rfl rfl rfl (P.eqB Tryz.underlying4 rfl rfl) ?_
                    refine WL.p rfl rfl rfl (P.pickT rfl rfl) ?_
                    refine WL.p rfl rfl rfl (P.move rfl) ?_
                    refine WL.split 85 rfl (fun hs85 => ?_) (fun hs85 => ?_)
                    ·
                      try simp only [decide_eq_true_eq, decide_eq_false_iff_not, beq_iff_eq, beq_eq_false_iff_ne, bne_iff_ne, bne_eq_false_iff_eq, Bool.not_eq_true', Bool.not_eq_false', ne_eq, Int.not_lt, Int.not_le] at hs85
                      refine WL.p rfl rfl rfl (P.fieldAddr fa_34_8 rfl) ?_
                      refine WL.p rfl rfl rfl (P.loadO 1 Tryz.isAgg9 rfl rfl rfl) ?_
                      refine WL.p rfl rfl rfl (P.fieldAddr fa_34_8 rfl) ?_
                      refine WL.p rfl rfl rfl (P.loadO 0 Tryz.isAgg9 rfl rfl rfl) ?_
                      refine WL.p rfl rfl rfl (P.cmps rfl rfl rfl) ?_
                      refine WL.p rfl rfl rfl (P.pickT rfl rfl) ?_
                      refine WL.p rfl rfl rfl (P.move rfl) ?_
                      refine WL.split 92 rfl (fun hs92 => ?_) (fun hs92 => ?_)
                      ·
                        try simp only [decide_eq_true_eq, decide_eq_false_iff_not, beq_iff_eq, beq_eq_false_iff_ne, bne_iff_ne, bne_eq_false_iff_eq, Bool.not_eq_true', Bool.not_eq_false', ne_eq, Int.not_lt, Int.not_le] at hs92
                        refine WL.p rfl rfl rfl (P.fieldAddr fa_34_9 rfl) ?_
                        refine WL.p rfl rfl rfl (P.loadO 1 Tryz.isAgg9 rfl rfl rfl) ?_
                        refine WL.p rfl rfl rfl (P.fieldAddr fa_34_9 rfl) ?_
                        refine WL.p rfl rfl rfl (P.loadO 0 Tryz.isAgg9 rfl rfl rfl) ?_
                        refine WL.p rfl rfl rfl (P.cmps rfl rfl rfl) ?_
                        refine WL.p rfl rfl rfl (P.pickT rfl rfl) ?_
                        refine WL.p rfl rfl rfl (P.move rfl) ?_
                        refine WL.split 99 rfl (fun hs99 => ?_) (fun hs99 => ?_)
                        ·
                          try simp only [decide_eq_true_eq, decide_eq_false_iff_not, beq_iff_eq, beq_eq_false_iff_ne, bne_iff_ne, bne_eq_false_iff_eq, Bool.not_eq_true', Bool.not_eq_false', ne_eq, Int.not_lt, Int.not_le] at hs99
                          refine WL.p rfl rfl rfl (P.fieldAddr fa_34_10 rfl) ?_
                          refine WL.p rfl rfl rfl (P.loadO 1 Tryz.isAgg3 rfl rfl rfl) ?_
                          refine WL.p rfl rfl rfl (P.fieldAddr fa_34_10 rfl) ?_
                          refine WL.p rfl rfl rfl (P.loadO 0 Tryz.isAgg3 rfl rfl rfl) ?_
                          refine WL.p rfl rfl rfl (P.cmp rfl rfl rfl) ?_
                          refine WL.p rfl rfl rfl (P.pickT rfl rfl) ?_
                          refine WL.p rfl rfl rfl (P.move rfl) ?_
                          refine WL.split 106 rfl (fun hs106 => ?_) (fun hs106 => ?_)
                          ·
                            try simp only [decide_eq_true_eq, decide_eq_false_iff_not, beq_iff_eq, beq_eq_false_iff_ne, bne_iff_ne, bne_eq_false_iff_eq, Bool.not_eq_true', Bool.not_eq_false', ne_eq, Int.not_lt, Int.not_le] at hs106
                            refine WL.p rfl rfl rfl (P.fieldAddr fa_34_11 rfl) ?_
                            refine WL.p rfl rfl rfl (P.loadO 1 Tryz.isAgg3 rfl rfl rfl) ?_
                            refine WL.p rfl rfl rfl (P.fieldAddr fa_34_11 rfl) ?_
                            refine WL.p rfl rfl rfl (P.loadO 0 Tryz.isAgg3 rfl rfl rfl) ?_
                            refine WL.p rfl rfl rfl (P.cmp rfl rfl rfl) ?_
                            refine WL.p rfl rfl rfl (P.pickT rfl rfl) ?_
                            refine WL.p rfl rfl rfl (P.assign rfl) ?_
                            refine WL.nil_ ?_
                            refine End.seq ?_
                            refine WC.ret ?_
                            refine End.ret1 rfl rfl ?_
                            exact fun w' hs' => RetV.of (by rw [sameL2 ‹_› ‹_› ‹_› ‹_› ‹_› ‹_› ‹_› ‹_› ‹_› ‹_› ‹_› eg]) hs'
                          ·
                            try simp only [decide_eq_true_eq, decide_eq_false_iff_not, beq_iff_eq, beq_eq_false_iff_ne, bne_iff_ne, bne_eq_false_iff_eq, Bool.not_eq_true', Bool.not_eq_false', ne_eq, Int.not_lt, Int.not_le] at hs106
                            refine WL.off rfl rfl ?_
                            refine WL.off rfl rfl ?_
                            refine WL.off rfl rfl ?_
                            refine WL.off rfl rfl ?_
                            refine WL.off rfl rfl ?_
                            refine WL.p rfl rfl rfl (P.pickF rfl rfl) ?_
                            refine WL.p rfl rfl rfl (P.assign rfl) ?_
                            refine WL.nil_ ?_
                            refine End.seq ?_
                            refine WC.ret ?_
                            refine End.ret1 rfl rfl ?_
                            exact fun w' hs' => RetV.of (by rw [decide_eq_false (fun e => hs106 (by rw [e]))]) hs'
                        ·
                          try simp only [decide_eq_true_eq, decide_eq_false_iff_not, beq_iff_eq, beq_eq_false_iff_ne, bne_iff_ne, bne_eq_false_iff_eq, Bool.not_eq_true', Bool.not_eq_false', ne_eq, Int.not_lt, Int.not_le] at hs99
                          refine WL.off rfl rfl ?_
                          refine WL.off rfl rfl ?_
                          refine WL.off rfl rfl ?_
                          refine WL.off rfl rfl ?_
                          refine WL.off rfl rfl ?_
                          refine WL.p rfl rfl rfl (P.pickF rfl rfl) ?_
                          refine WL.p rfl rfl rfl (P.move rfl) ?_
                          refine WL.off rfl rfl ?_
                          refine WL.off rfl rfl ?_
                          refine WL.off rfl rfl ?_
                          refine WL.off rfl rfl ?_
                          refine WL.off rfl rfl ?_
                          refine WL.p rfl rfl rfl (P.pickF rfl rfl) ?_
                          refine WL.p rfl rfl rfl (P.assign rfl) ?_
                          refine WL.nil_ ?_
                          refine End.seq ?_
                          refine WC.ret ?_
                          refine End.ret1 rfl rfl ?_
                          exact fun w' hs' => RetV.of (by rw [decide_eq_false (fun e => hs99 (by rw [e]))]) hs'
                      ·
                        try simp only [decide_eq_true_eq, decide_eq_false_iff_not, beq_iff_eq, beq_eq_false_iff_ne, bne_iff_ne, bne_eq_false_iff_eq, Bool.not_eq_true', Bool.not_eq_false', ne_eq, Int.not_lt, Int.not_le] at hs92
                        refine WL.off rfl rfl ?_
                        refine WL.off rfl rfl ?_
                        refine WL.off rfl rfl ?_
                        refine WL.off rfl rfl ?_
                        refine WL.off rfl rfl ?_
                        refine WL.p rfl rfl rfl (P.pickF rfl rfl) ?_
                        refine WL.p rfl rfl rfl (P.move rfl) ?_
                        refine WL.off rfl rfl ?_
                        refine WL.off rfl rfl ?_
                        refine WL.off rfl rfl ?_
                        refine WL.off rfl rfl ?_
                        refine WL.off rfl rfl ?_
                        refine WL.p rfl rfl rfl (P.pickF rfl rfl) ?_
                        refine WL.p rfl rfl rfl (P.move rfl) ?_
                        refine WL.off rfl rfl ?_
                        refine WL.off rfl rfl ?_
                        refine WL.off rfl rfl ?_
                        refine WL.off rfl rfl ?_
                        refine WL.off rfl rfl ?_
                        refine WL.p rfl rfl rfl (P.pickF rfl rfl) ?_
                        refine WL.p rfl rfl rfl (P.assign rfl) ?_
                        refine WL.nil_ ?_
                        refine End.seq ?_
                        refine WC.ret ?_
                        refine End.ret1 rfl rfl ?_
                        exact fun w' hs' => RetV.of (by rw [decide_eq_false (fun e => hs92 (by rw [e]))]) hs'
                    ·
                      try simp only [decide_eq_true_eq, decide_eq_false_iff_not, beq_iff_eq, beq_eq_false_iff_ne, bne_iff_ne, bne_eq_false_iff_eq, Bool.not_eq_true', Bool.not_eq_false', ne_eq, Int.not_lt, Int.not_le] at hs85
                      refine WL.off rfl rfl ?_
                      refine WL.off rfl rfl ?_
                      refine WL.off rfl rfl ?_
                      refine WL.off rfl rfl ?_
                      refine WL.off rfl rfl ?_
                      refine WL.p rfl rfl rfl (P.pickF rfl rfl) ?_
                      refine WL.p rfl rfl rfl (P.move rfl) ?_
                      refine WL.off rfl rfl ?_
                      refine WL.off rfl rfl ?_
                      refine WL.off rfl rfl ?_
                      refine WL.off rfl rfl ?_
                      refine WL.off rfl rfl ?_
                      refine WL.p rfl rfl rfl (P.pickF rfl rfl) ?_
                      refine WL.p rfl rfl rfl (P.move rfl) ?_
                      refine WL.off rfl rfl ?_
                      refine WL.off rfl rfl ?_
                      refine WL.off rfl rfl ?_
                      refine WL.off rfl rfl ?_
                      refine WL.off rfl rfl ?_
                      refine WL.p rfl rfl rfl (P.pickF rfl rfl) ?_
                      refine WL.p rfl rfl rfl (P.move rfl) ?_
                      refine WL.off rfl rfl ?_
                      refine WL.off rfl rfl ?_
                      refine WL.off rfl rfl ?_
                      refine WL.off rfl rfl ?_
                      refine WL.off rfl rfl ?_
                      refine WL.p rfl rfl rfl (P.pickF rfl rfl) ?_
                      refine WL.p rfl rfl rfl (P.assign rfl) ?_
                      refine WL.nil_ ?_
                      refine End.seq ?_
                      refine WC.ret ?_
                      refine End.ret1 rfl rfl ?_
                      exact fun w' hs' => RetV.of (by rw [decide_eq_false (fun e => hs85 (by rw [e]))]) hs'
                  ·
                    try simp only [decide_eq_true_eq, decide_eq_false_iff_not, beq_iff_eq, beq_eq_false_iff_ne, bne_iff_ne, bne_eq_false_iff_eq, Bool.not_eq_true', Bool.not_eq_false', ne_eq, Int.not_lt, Int.not_le] at hs78
                    refine WL.off rfl rfl ?_
                    refine WL.off rfl rfl ?_
                    refine WL.off rfl rfl ?_
                    refine WL.off rfl rfl ?_
                    refine WL.off rfl rfl ?_
                    refine WL.p rfl rfl rfl (P.pickF rfl rfl) ?_
                    refine WL.p rfl rfl rfl (P.move rfl) ?_
                    refine WL.off rfl rfl ?_
                    refine WL.off rfl rfl ?_
                    refine WL.off rfl rfl ?_
                    refine WL.off rfl rfl ?_
                    refine WL.off rfl rfl ?_
                    refine WL.p rfl rfl rfl (P.pickF rfl rfl) ?_
                    refine WL.p rfl rfl rfl (P.move rfl) ?_
                    refine WL.off rfl rfl ?_
                    refine WL.off rfl rfl ?_
                    refine WL.off rfl rfl ?_
                    refine WL.off rfl rfl ?_
                    refine WL.off rfl rfl ?_
                    refine WL.p rfl rfl rfl (P.pickF rfl rfl) ?_
                    refine WL.p rfl rfl rfl (P.move rfl) ?_
                    refine WL.off rfl rfl ?_
                    refine WL.off rfl rfl ?_
                    refine WL.off rfl rfl ?_
                    refine WL.off rfl rfl ?_
                    refine WL.off rfl rfl ?_
                    refine WL.p rfl rfl rfl (P.pickF rfl rfl) ?_
                    refine WL.p rfl rfl rfl (P.move rfl) ?_
                    refine WL.off rfl rfl ?_
                    refine WL.off rfl rfl ?_
                    refine WL.off rfl rfl ?_
                    refine WL.off rfl rfl ?_
                    refine WL.off rfl rfl ?_
                    refine WL.p rfl rfl rfl (P.pickF rfl rfl) ?_
                    refine WL.p rfl rfl rfl (P.assign rfl) ?_
                    refine WL.nil_ ?_
                    refine End.seq ?_
                    refine WC.ret ?_
                    refine End.ret1 rfl rfl ?_
                    exact fun w' hs' => RetV.of (by rw [decide_eq_false (fun e => hs78 (by rw [e]))]) hs'
                ·
                  try simp only [decide_eq_true_eq, decide_eq_false_iff_not, beq_iff_eq, beq_eq_false_iff_ne, bne_iff_ne, bne_eq_false_iff_eq, Bool.not_eq_true', Bool.not_eq_false', ne_eq, Int.not_lt, Int.not_le] at hs71
                  refine WL.off rfl rfl ?_
                  refine WL.off rfl rfl ?_
                  refine WL.off rfl rfl ?_
                  refine WL.off rfl rfl ?_
                  refine WL.off rfl rfl ?_
                  refine WL.p rfl rfl rfl (P.pickF rfl rfl) ?_
                  refine WL.p rfl rfl rfl (P.move rfl) ?_
                  refine WL.off rfl rfl ?_
                  refine WL.off rfl rfl ?_
                  refine WL.off rfl rfl ?_
                  refine WL.off rfl rfl ?_
                  refine WL.off rfl rfl ?_
                  refine WL.p rfl rfl rfl (P.pickF rfl rfl) ?_
                  refine WL.p rfl rfl rfl (P.move rfl) ?_
                  refine WL.off rfl rfl ?_
                  refine WL.off rfl rfl ?_
                  refine WL.off rfl rfl ?_
                  refine WL.off rfl rfl ?_
                  refine WL.off rfl rfl ?_
                  refine WL.p rfl rfl rfl (P.pickF rfl rfl) ?_
                  refine WL.p rfl rfl rfl (P.move rfl) ?_
                  refine WL.off rfl rfl ?_
                  refine WL.off rfl rfl ?_
                  refine WL.off rfl rfl ?_
                  refine WL.off rfl rfl ?_
                  refine WL.off rfl rfl ?_
                  refine WL.p rfl rfl rfl (P.pickF rfl rfl) ?_
                  refine WL.p rfl rfl rfl (P.move rfl) ?_
                  refine WL.off rfl rfl ?_
                  refine WL.off rfl rfl ?_
                  refine WL.off rfl rfl ?_
                  refine WL.off rfl rfl ?_
                  refine WL.off rfl rfl ?_
                  refine WL.p rfl rfl rfl (P.pickF rfl rfl) ?_
                  refine WL.p rfl rfl rfl (P.move rfl) ?_
                  refine WL.off rfl rfl ?_
                  refine WL.off rfl rfl ?_
                  refine WL.off rfl rfl ?_
                  refine WL.off rfl rfl ?_
                  refine WL.off rfl rfl ?_
                  refine WL.p rfl rfl rfl (P.pickF rfl rfl) ?_
                  refine WL.p rfl rfl rfl (P.assign rfl) ?_
                  refine WL.nil_ ?_
                  refine End.seq ?_
                  refine WC.ret ?_
                  refine End.ret1 rfl rfl ?_
                  exact fun w' hs' => RetV.of (by rw [decide_eq_false (fun e => hs71 (by rw [e]))]) hs'
              ·
                try simp only [decide_eq_true_eq, decide_eq_false_iff_not, beq_iff_eq, beq_eq_false_iff_ne, bne_iff_ne, bne_eq_false_iff_eq, Bool.not_eq_true', Bool.not_eq_false', ne_eq, Int.not_lt, Int.not_le] at hs64
                refine WL.off rfl rfl ?_
                refine WL.off rfl rfl ?_
                refine WL.off rfl rfl ?_
                refine WL.off rfl rfl ?_
                refine WL.off rfl rfl ?_
                refine WL.p rfl rfl rfl (P.pickF rfl rfl) ?_
                refine WL.p rfl rfl rfl (P.move rfl) ?_
                refine WL.off rfl rfl ?_
                refine WL.off rfl rfl ?_
                refine WL.off rfl rfl ?_
                refine WL.off rfl rfl ?_
                refine WL.off rfl rfl ?_
                refine WL.p rfl rfl rfl (P.pickF rfl rfl) ?_
                refine WL.p rfl rfl rfl (P.move rfl) ?_
                refine WL.off rfl rfl ?_
                refine WL.off rfl rfl ?_
                refine WL.off rfl rfl ?_
                refine WL.off rfl rfl ?_
                refine WL.off rfl rfl ?_
                refine WL.p rfl rfl rfl (P.pickF rfl rfl) ?_
                refine WL.p rfl rfl rfl (P.move rfl) ?_
                refine WL.off rfl rfl ?_
                refine WL.off rfl rfl ?_
                refine WL.off rfl rfl ?_
                refine WL.off rfl rfl ?_
                refine WL.off rfl rfl ?_
                refine WL.p rfl rfl rfl (P.pickF rfl rfl) ?_
                refine WL.p rfl rfl rfl (P.move rfl) ?_
                refine WL.off rfl rfl ?_
                refine WL.off rfl rfl ?_
                refine WL.off rfl rfl ?_
                refine WL.off rfl rfl ?_
                refine WL.off rfl rfl ?_
                refine WL.p rfl rfl rfl (P.pickF rfl rfl) ?_
                refine WL.p rfl rfl rfl (P.move rfl) ?_
                refine WL.off rfl rfl ?_
                refine WL.off rfl rfl ?_
                refine WL.off rfl rfl ?_
                refine WL.off rfl rfl ?_
                refine WL.off rfl rfl ?_
                refine WL.p rfl rfl rfl (P.pickF rfl rfl) ?_
                refine WL.p rfl rfl rfl (P.move rfl) ?_
                refine WL.off rfl rfl ?_
                refine WL.off rfl rfl ?_
                refine WL.off rfl rfl ?_
                refine WL.off rfl rfl ?_
                refine WL.off rfl rfl ?_
                refine WL.p rfl rfl rfl (P.pickF rfl rfl) ?_
                refine WL.p rfl rfl rfl (P.assign rfl) ?_
                refine WL.nil_ ?_
                refine End.seq ?_
                refine WC.ret ?_
                refine End.ret1 rfl rfl ?_
                exact fun w' hs' => RetV.of (by rw [decide_eq_false (fun e => hs64 (by rw [e]))]) hs'
            ·
              try simp only [decide_eq_true_eq, decide_eq_false_iff_not, beq_iff_eq, beq_eq_false_iff_ne, bne_iff_ne, bne_eq_false_iff_eq, Bool.not_eq_true', Bool.not_eq_false', ne_eq, Int.not_lt, Int.not_le] at hs57
              refine WL.off rfl rfl ?_
              refine WL.off rfl rfl ?_
              refine WL.off rfl rfl ?_
              refine WL.off rfl rfl ?_
              refine WL.off rfl rfl ?_
              refine WL.p rfl rfl rfl (P.pickF rfl rfl) ?_
              refine WL.p rfl rfl rfl (P.move rfl) ?_
              refine WL.off rfl rfl ?_
              refine WL.off rfl rfl ?_
              refine WL.off rfl rfl ?_
              refine WL.off rfl rfl ?_
              refine WL.off rfl rfl ?_
              refine WL.p rfl rfl rfl (P.pickF rfl rfl) ?_
              refine WL.p rfl rfl rfl (P.move rfl) ?_
              refine WL.off rfl rfl ?_
              refine WL.off rfl rfl ?_
              refine WL.off rfl rfl ?_
              refine WL.off rfl rfl ?_
              refine WL.off rfl rfl ?_
              refine WL.p rfl rfl rfl (P.pickF rfl rfl) ?_
              refine WL.p rfl rfl rfl (P.move rfl) ?_
              refine WL.off rfl rfl ?_
              refine WL.off rfl rfl ?_
              refine WL.off rfl rfl ?_
              refine WL.off rfl rfl ?_
              refine WL.off rfl rfl ?_
              refine WL.p rfl rfl rfl (P.pickF rfl rfl) ?_
              refine WL.p rfl rfl rfl (P.move rfl) ?_
              refine WL.off rfl rfl ?_
              refine WL.off rfl rfl ?_
              refine WL.off rfl rfl ?_
              refine WL.off rfl rfl ?_
              refine WL.off rfl rfl ?_
              refine WL.p rfl rfl rfl (P.pickF rfl rfl) ?_
              refine WL.p rfl rfl rfl (P.move rfl) ?_
              refine WL.off rfl rfl ?_
              refine WL.off rfl rfl ?_
              refine WL.off rfl rfl ?_
              refine WL.off rfl rfl ?_
              refine WL.off rfl rfl ?_
              refine WL.p rfl rfl rfl (P.pickF rfl rfl) ?_
              refine WL.p rfl rfl rfl (P.move rfl) ?_
              refine WL.off rfl rfl ?_
              refine WL.off rfl rfl ?_
              refine WL.off rfl rfl ?_
              refine WL.off rfl rfl ?_
              refine WL.off rfl rfl ?_
              refine WL.p rfl rfl rfl (P.pickF rfl rfl) ?_
              refine WL.p rfl rfl rfl (P.move rfl) ?_
              refine WL.off rfl rfl ?_
              refine WL.off rfl rfl ?_
              refine WL.off rfl rfl ?_
              refine WL.off rfl rfl ?_
              refine WL.off rfl rfl ?_
              refine WL.p rfl rfl rfl (P.pickF rfl rfl) ?_
              refine WL.p rfl rfl rfl (P.assign rfl) ?_
              refine WL.nil_ ?_
              refine End.seq ?_
              refine WC.ret ?_
              refine End.ret1 rfl rfl ?_
              exact fun w' hs' => RetV.of (by rw [decide_eq_false (fun e => hs57 (by rw [e]))]) hs'
          ·
            try simp only [decide_eq_true_eq, decide_eq_false_iff_not, beq_iff_eq, beq_eq_false_iff_ne, bne_iff_ne, bne_eq_false_iff_eq, Bool.not_eq_true', Bool.not_eq_false', ne_eq, Int.not_lt, Int.not_le] at hs50
            refine WL.off rfl rfl ?_
            refine WL.off rfl rfl ?_
            refine WL.off rfl rfl ?_
            refine WL.off rfl rfl ?_
            refine WL.off rfl rfl ?_
            refine WL.p rfl rfl rfl (P.pickF rfl rfl) ?_
            refine WL.p rfl rfl rfl (P.move rfl) ?_
            refine WL.off rfl rfl ?_
            refine WL.off rfl rfl ?_
            refine WL.off rfl rfl ?_
            refine WL.off rfl rfl ?_
            refine WL.off rfl rfl ?_
            refine WL.p rfl rfl rfl (P.pickF rfl rfl) ?_
            refine WL.p rfl rfl rfl (P.move rfl) ?_
            refine WL.off rfl rfl ?_
            refine WL.off rfl rfl ?_
            refine WL.off rfl rfl ?_
            refine WL.off rfl rfl ?_
            refine WL.off rfl rfl ?_
            refine WL.p rfl rfl rfl (P.pickF rfl rfl) ?_
            refine WL.p rfl rfl rfl (P.move rfl) ?_
            refine WL.off rfl rfl ?_
            refine WL.off rfl rfl ?_
            refine WL.off rfl rfl ?_
            refine WL.off rfl rfl ?_
            refine WL.off rfl rfl ?_
            refine WL.p rfl rfl rfl (P.pickF rfl rfl) ?_
            refine WL.p rfl rfl rfl (P.move rfl) ?_
            refine WL.off rfl rfl ?_
            refine WL.off rfl rfl ?_
            refine WL.off rfl rfl ?_
            refine WL.off rfl rfl ?_
            refine WL.off rfl rfl ?_
            refine WL.p rfl rfl rfl (P.pickF rfl rfl) ?_
            refine WL.p rfl rfl rfl (P.move rfl) ?_
            refine WL.off rfl rfl ?_
            refine WL.off rfl rfl ?_
            refine WL.off rfl rfl ?_
            refine WL.off rfl rfl ?_
            refine WL.off rfl rfl ?_
            refine WL.p rfl rfl rfl (P.pickF rfl rfl) ?_
            refine WL.p rfl rfl rfl (P.move rfl) ?_
            refine WL.off rfl rfl ?_
            refine WL.off rfl rfl ?_
            refine WL.off rfl rfl ?_
            refine WL.off rfl rfl ?_
            refine WL.off rfl rfl ?_
            refine WL.p rfl rfl rfl (P.pickF rfl rfl) ?_
            refine WL.p rfl rfl rfl (P.move rfl) ?_
            refine WL.off rfl rfl ?_
            refine WL.off rfl rfl ?_
            refine WL.off rfl rfl ?_
            refine WL.off rfl rfl ?_
            refine WL.off rfl rfl ?_
            refine WL.p rfl rfl rfl (P.pickF rfl rfl) ?_
            refine WL.p rfl rfl rfl (P.move rfl) ?_
            refine WL.off rfl rfl ?_
            refine WL.off rfl rfl ?_
            refine WL.off rfl rfl ?_
            refine WL.off rfl rfl ?_
            refine WL.off rfl rfl ?_
            refine WL.p rfl rfl rfl (P.pickF rfl rfl) ?_
            refine WL.p rfl rfl rfl (P.assign rfl) ?_
            refine WL.nil_ ?_
            refine End.seq ?_
            refine WC.ret ?_
            refine End.ret1 rfl rfl ?_
            exact fun w' hs' => RetV.of (by rw [decide_eq_false (fun e => hs50 (by rw [e]))]) hs'
        ·
          try simp only [decide_eq_true_eq, decide_eq_false_iff_not, beq_iff_eq, beq_eq_false_iff_ne, bne_iff_ne, bne_eq_false_iff_eq, Bool.not_eq_true', Bool.not_eq_false', ne_eq, Int.not_lt, Int.not_le] at hs43
          refine WL.off rfl rfl ?_
          refine WL.off rfl rfl ?_
          refine WL.off rfl rfl ?_
          refine WL.off rfl rfl ?_
          refine WL.off rfl rfl ?_
          refine WL.p rfl rfl rfl (P.pickF rfl rfl) ?_
          refine WL.p rfl rfl rfl (P.move rfl) ?_
          refine WL.off rfl rfl ?_
          refine WL.off rfl rfl ?_
          refine WL.off rfl rfl ?_
          refine WL.off rfl rfl ?_
          refine WL.off rfl rfl ?_
          refine WL.p rfl rfl rfl (P.pickF rfl rfl) ?_
          refine WL.p rfl rfl rfl (P.move rfl) ?_
          refine WL.off rfl rfl ?_
          refine WL.off rfl rfl ?_
          refine WL.off rfl rfl ?_
          refine WL.off rfl rfl ?_
          refine WL.off rfl rfl ?_
          refine WL.p rfl rfl rfl (P.pickF rfl rfl) ?_
          refine WL.p rfl rfl rfl (P.move rfl) ?_
          refine WL.off rfl rfl ?_
          refine WL.off rfl rfl ?_
          refine WL.off rfl rfl ?_
          refine WL.off rfl rfl ?_
          refine WL.off rfl rfl ?_
          refine WL.p rfl rfl rfl (P.pickF rfl rfl) ?_
          refine WL.p rfl rfl rfl (P.move rfl) ?_
          refine WL.off rfl rfl ?_
          refine WL.off rfl rfl ?_
          refine WL.off rfl rfl ?_
          refine WL.off rfl rfl ?_
          refine WL.off rfl rfl ?_
          refine WL.p rfl rfl rfl (P.pickF rfl rfl) ?_
          refine WL.p rfl rfl rfl (P.move rfl) ?_
          refine WL.off rfl rfl ?_
          refine WL.off rfl rfl ?_
          refine WL.off rfl rfl ?_
          refine WL.off rfl rfl ?_
          refine WL.off rfl rfl ?_
          refine WL.p rfl rfl rfl (P.pickF rfl rfl) ?_
          refine WL.p rfl rfl rfl (P.move rfl) ?_
          refine WL.off rfl rfl ?_
          refine WL.off rfl rfl ?_
          refine WL.off rfl rfl ?_
          refine WL.off rfl rfl ?_
          refine WL.off rfl rfl ?_
          refine WL.p rfl rfl rfl (P.pickF rfl rfl) ?_
          refine WL.p rfl rfl rfl (P.move rfl) ?_
          refine WL.off rfl rfl ?_
          refine WL.off rfl rfl ?_
          refine WL.off rfl rfl ?_
          refine WL.off rfl rfl ?_
          refine WL.off rfl rfl ?_
          refine WL.p rfl rfl rfl (P.pickF rfl rfl) ?_
          refine WL.p rfl rfl rfl (P.move rfl) ?_
          refine WL.off rfl rfl ?_
          refine WL.off rfl rfl ?_
          refine WL.off rfl rfl ?_
          refine WL.off rfl rfl ?_
          refine WL.off rfl rfl ?_
          refine WL.p rfl rfl rfl (P.pickF rfl rfl) ?_
          refine WL.p rfl rfl rfl (P.move rfl) ?_
          refine WL.off rfl rfl ?_
          refine WL.off rfl rfl ?_
          refine WL.off rfl rfl ?_
          refine WL.off rfl rfl ?_
          refine WL.off rfl rfl ?_
          refine WL.p rfl rfl rfl (P.pickF rfl rfl) ?_
          refine WL.p rfl rfl rfl (P.assign rfl) ?_
          refine WL.nil_ ?_
          refine End.seq ?_
          refine WC.ret ?_
          refine End.ret1 rfl rfl ?_
          exact fun w' hs' => RetV.of (by rw [decide_eq_false (fun e => hs43 (by rw [e]))]) hs'
      ·
        try simp only [decide_eq_true_eq, decide_eq_false_iff_not, beq_iff_eq, beq_eq_false_iff_ne, bne_iff_ne, bne_eq_false_iff_eq, Bool.not_eq_true', Bool.not_eq_false', ne_eq, Int.not_lt, Int.not_le] at hs36
        refine WL.off rfl rfl ?_
        refine WL.off rfl rfl ?_
        refine WL.off rfl rfl ?_
        refine WL.off rfl rfl ?_
        refine WL.off rfl rfl ?_
        refine WL.p rfl rfl rfl (P.pickF rfl rfl) ?_
        refine WL.p rfl rfl rfl (P.move rfl) ?_
        refine WL.off rfl rfl ?_
        refine WL.off rfl rfl ?_
        refine WL.off rfl rfl ?_
        refine WL.off rfl rfl ?_
        refine WL.off rfl rfl ?_
        refine WL.p rfl rfl rfl (P.pickF rfl rfl) ?_
        refine WL.p rfl rfl rfl (P.move rfl) ?_
        refine WL.off rfl rfl ?_
        refine WL.off rfl rfl ?_
        refine WL.off rfl rfl ?_
        refine WL.off rfl rfl ?_
        refine WL.off rfl rfl ?_
        refine WL.p rfl rfl rfl (P.pickF rfl rfl) ?_
        refine WL.p rfl rfl rfl (P.move rfl) ?_
        refine WL.off rfl rfl ?_
        refine WL.off rfl rfl ?_
        refine WL.off rfl rfl ?_
        refine WL.off rfl rfl ?_
        refine WL.off rfl rfl ?_
        refine WL.p rfl rfl rfl (P.pickF rfl rfl) ?_
        refine WL.p rfl rfl rfl (P.move rfl) ?_
        refine WL.off rfl rfl ?_
        refine WL.off rfl rfl ?_
        refine WL.off rfl rfl ?_
        refine WL.off rfl rfl ?_
        refine WL.off rfl rfl ?_
        refine WL.p rfl rfl rfl (P.pickF rfl rfl) ?_
        refine WL.p rfl rfl rfl (P.move rfl) ?_
        refine WL.off rfl rfl ?_
        refine WL.off rfl rfl ?_
        refine WL.off rfl rfl ?_
        refine WL.off rfl rfl ?_
        refine WL.off rfl rfl ?_
        refine WL.p rfl rfl rfl (P.pickF rfl rfl) ?_
        refine WL.p rfl rfl rfl (P.move rfl) ?_
        refine WL.off rfl rfl ?_
        refine WL.off rfl rfl ?_
        refine WL.off rfl rfl ?_
        refine WL.off rfl rfl ?_
        refine WL.off rfl rfl ?_
        refine WL.p rfl rfl rfl (P.pickF rfl rfl) ?_
        refine WL.p rfl rfl rfl (P.move rfl) ?_
        refine WL.off rfl rfl ?_
        refine WL.off rfl rfl ?_
        refine WL.off rfl rfl ?_
        refine WL.off rfl rfl ?_
        refine WL.off rfl rfl ?_
        refine WL.p rfl rfl rfl (P.pickF rfl rfl) ?_
        refine WL.p rfl rfl rfl (P.move rfl) ?_
        refine WL.off rfl rfl ?_
        refine WL.off rfl rfl ?_
        refine WL.off rfl rfl ?_
        refine WL.off rfl rfl ?_
        refine WL.off rfl rfl ?_
        refine WL.p rfl rfl rfl (P.pickF rfl rfl) ?_
        refine WL.p rfl rfl rfl (P.move rfl) ?_
        refine WL.off rfl rfl ?_
        refine WL.off rfl rfl ?_
        refine WL.off rfl rfl ?_
        refine WL.off rfl rfl ?_
        refine WL.off rfl rfl ?_
        refine WL.p rfl rfl rfl (P.pickF rfl rfl) ?_
        refine WL.p rfl rfl rfl (P.move rfl) ?_
        refine WL.off rfl rfl ?_
        refine WL.off rfl rfl ?_
        refine WL.off rfl rfl ?_
        refine WL.off rfl rfl ?_
        refine WL.off rfl rfl ?_
        refine WL.p rfl rfl rfl (P.pickF rfl rfl) ?_
        refine WL.p rfl rfl rfl (P.assign rfl) ?_
        refine WL.nil_ ?_
        refine End.seq ?_
        refine WC.ret ?_
        refine End.ret1 rfl rfl ?_
        exact fun w' hs' => RetV.of (by rw [decide_eq_false (fun e => hs36 (by rw [e]))]) hs'

end Go.Proofs.YtlkkiimmangplaaGreatDoor

/- A group's entry. -/
namespace Go.Proofs.YtlkkiimmangplaaGreatDoor
open Go.RowKit
set_option linter.unusedVariables false
set_option linter.unusedSimpArgs false

theorem slI_row {w0 w : World} {H : List It} {j b : Nat} {cs : Array Value} {xs : List Int} (hs : St w0 H w) (hj : H[j]? = some (.blk b 3 cs)) (hcs : cs = (xs.map (Value.int .i64)).toArray) (hl : xs.length ≤ 140737488351232) : Sl encI 1 w (some ⟨b, 0, none⟩) xs :=
  ⟨hl, fun _ => ⟨b, 0, rfl, fun k x hx i u hu => by
    have hb := (hs.ok j _ hj).2
    cases i with
    | zero =>
      simp [encI] at hu
      subst hu
      rw [cell_blk hb, hcs]
      simp [hx]
    | succ i => simp [encI] at hu⟩⟩
/-- The fields of a group are in their ranges. -/
def groupOK (e : E) : Bool := inB 1 63 [e.limit] && (inB 0 9999 [e.last] && (decide (e.owner = bempty) || wordB e.owner))
def formG : Array Value := #[.int .u8 71, .func (.func 187) #[] #[], .func (.func 196) #[] #[], .func (.func 200) #[] #[]]
def formsEs : Array MapEntry := #[⟨.int .i64 0, .agg #[.int .u8 68, .func (.func 76) #[] #[], .func (.func 194) #[] #[], .func (.func 195) #[] #[]], 0⟩,
  ⟨.int .i64 1, .agg formG, 1⟩, ⟨.int .i64 2, .agg #[.int .u8 65, .func (.func 203) #[] #[], .func (.func 205) #[] #[], .func (.func 206) #[] #[]], 2⟩,
  ⟨.int .i64 3, .agg #[.int .u8 67, .func (.func 207) #[] #[], .func (.func 209) #[] #[], .func (.func 211) #[] #[]], 3⟩,
  ⟨.int .i64 4, .agg #[.int .u8 80, .func (.func 106) #[] #[], .func (.func 212) #[] #[], .func (.func 213) #[] #[]], 4⟩]
theorem owner_eq {s : ByteArray} (h : (s.toList == (⟨#[]⟩ : ByteArray).toList) = true) : decide (s = bempty) = true := by rw [toList_beq] at h; exact h
theorem owner_ne {s : ByteArray} (h : (s.toList == (⟨#[]⟩ : ByteArray).toList) = false) : decide (s = bempty) = false := by rw [toList_beq] at h; exact h

set_option maxRecDepth 100000 in
theorem groupOK_any (e : E) (va vg : Value) (w : World) (hg : Good w) :
    Calls Tryz.prog 200 #[.agg (e.cells va vg)] w (RetV w (.bool (groupOK e))) := by
  refine enter Tryz.func200 rfl Tryz.ntmps200 rfl ?_
  refine WC.seq ?_
  refine WC.region ?_
  refine WL.box rfl rfl rfl (fun b1 => ?_)
  refine WL.p rfl rfl rfl (P.assign rfl) ?_
  refine WL.nil_ ?_
  refine End.seq ?_
  refine WC.seq ?_
  refine WC.region ?_
  refine WL.p rfl rfl rfl (P.fieldAddr fa_34_5 rfl) ?_
  refine WL.p rfl rfl rfl (P.loadO 0 Tryz.isAgg3 rfl rfl rfl) ?_
  refine WL.row Tryz.underlying22 Tryz.sizeOf3 Tryz.zeroValue3 rfl rfl rfl rfl rfl rfl rfl rfl rfl (fun b5 => ?_)
  refine WL.callv (ent_of Tryz.func201 rfl rfl) rfl rfl rfl (fun w hs => within_any 1 63 _ _ [e.limit] w (slI_row hs (j := 0) rfl rfl (by simp))) ?_
  refine WL.p rfl rfl rfl (P.move rfl) ?_
  refine WL.split 7 rfl (fun hs7 => ?_) (fun hs7 => ?_)
  ·
    refine WL.p rfl rfl rfl (P.fieldAddr fa_34_6 rfl) ?_
    refine WL.p rfl rfl rfl (P.loadO 1 Tryz.isAgg3 rfl rfl rfl) ?_
    refine WL.row Tryz.underlying22 Tryz.sizeOf3 Tryz.zeroValue3 rfl rfl rfl rfl rfl rfl rfl rfl rfl (fun b10 => ?_)
    refine WL.callv (ent_of Tryz.func201 rfl rfl) rfl rfl rfl (fun w hs => within_any 0 9999 _ _ [e.last] w (slI_row hs (j := 0) rfl rfl (by simp))) ?_
    refine WL.p rfl rfl rfl (P.pickT rfl rfl) ?_
    refine WL.p rfl rfl rfl (P.move rfl) ?_
    refine WL.split 13 rfl (fun hs13 => ?_) (fun hs13 => ?_)
    ·
      refine WL.p rfl rfl rfl (P.fieldAddr fa_34_8 rfl) ?_
      refine WL.p rfl rfl rfl (P.loadO 2 Tryz.isAgg9 rfl rfl rfl) ?_
      refine WL.p rfl rfl rfl (P.cmps rfl rfl rfl) ?_
      refine WL.p rfl rfl rfl (P.move rfl) ?_
      refine WL.split 17 rfl (fun hs17 => ?_) (fun hs17 => ?_)
      ·
        refine WL.off rfl rfl ?_
        refine WL.off rfl rfl ?_
        refine WL.off rfl rfl ?_
        refine WL.p rfl rfl rfl (P.pickT rfl rfl) ?_
        refine WL.p rfl rfl rfl (P.pickT rfl rfl) ?_
        refine WL.p rfl rfl rfl (P.assign rfl) ?_
        refine WL.nil_ ?_
        refine End.seq ?_
        refine WC.ret ?_
        refine End.ret1 rfl rfl ?_
        exact fun w' hs' => RetV.of (by rw [groupOK, hs7, hs13, owner_eq hs17]; rfl) hs'
      ·
        refine WL.p rfl rfl rfl (P.fieldAddr fa_34_8 rfl) ?_
        refine WL.p rfl rfl rfl (P.loadO 2 Tryz.isAgg9 rfl rfl rfl) ?_
        refine WL.callv (ent_of Tryz.func202 rfl rfl) rfl rfl rfl (fun w hs => word_any e.owner w (hg.st hs)) ?_
        refine WL.p rfl rfl rfl (P.pickF rfl rfl) ?_
        refine WL.p rfl rfl rfl (P.pickT rfl rfl) ?_
        refine WL.p rfl rfl rfl (P.assign rfl) ?_
        refine WL.nil_ ?_
        refine End.seq ?_
        refine WC.ret ?_
        refine End.ret1 rfl rfl ?_
        exact fun w' hs' => RetV.of (by rw [groupOK, hs7, hs13, owner_ne hs17]; rfl) hs'
    ·
      refine WL.off rfl rfl ?_
      refine WL.off rfl rfl ?_
      refine WL.off rfl rfl ?_
      refine WL.off rfl rfl ?_
      refine WL.offU rfl rfl ?_
      refine WL.offU rfl rfl ?_
      refine WL.offU rfl rfl ?_
      refine WL.off rfl rfl ?_
      refine WL.p rfl rfl rfl (P.pickF rfl rfl) ?_
      refine WL.p rfl rfl rfl (P.assign rfl) ?_
      refine WL.nil_ ?_
      refine End.seq ?_
      refine WC.ret ?_
      refine End.ret1 rfl rfl ?_
      exact fun w' hs' => RetV.of (by rw [groupOK, hs7, hs13]; rfl) hs'
  ·
    refine WL.off rfl rfl ?_
    refine WL.off rfl rfl ?_
    refine WL.off rfl rfl ?_
    refine WL.off rfl rfl ?_
    refine WL.p rfl rfl rfl (P.pickF rfl rfl) ?_
    refine WL.p rfl rfl rfl (P.move rfl) ?_
    refine WL.off rfl rfl ?_
    refine WL.off rfl rfl ?_
    refine WL.off rfl rfl ?_
    refine WL.off rfl rfl ?_
    refine WL.offU rfl rfl ?_
    refine WL.offU rfl rfl ?_
    refine WL.offU rfl rfl ?_
    refine WL.off rfl rfl ?_
    refine WL.p rfl rfl rfl (P.pickF rfl rfl) ?_
    refine WL.p rfl rfl rfl (P.assign rfl) ?_
    refine WL.nil_ ?_
    refine End.seq ?_
    refine WC.ret ?_
    refine End.ret1 rfl rfl ?_
    exact fun w' hs' => RetV.of (by rw [groupOK, hs7]; rfl) hs'

set_option maxRecDepth 100000 in
theorem forms_any  (w : World) :
    Calls Tryz.prog 114 #[] w (Ret w (fun _ : Nat => True) (fun b => .map (some b)) (fun b => [.map b formsEs 5])) := by
  refine enter Tryz.func114 rfl Tryz.ntmps114 rfl ?_
  refine WC.seq ?_
  refine WC.region ?_
  refine WL.p rfl rfl rfl (P.assign rfl) ?_
  refine WL.nil_ ?_
  refine End.seq ?_
  refine WC.seq ?_
  refine WC.region ?_
  refine WL.makeMap rfl rfl (fun b1 => ?_)
  refine WL.p rfl rfl rfl (P.build rfl (fun w => bo_128 Tryz.zeroValue128 (cs := #[_, _, _, _]) rfl rfl w)) ?_
  refine WL.insert 0 Tryz.underlying130 Tryz.underlying3 (by simp [MapKept.IsKey]) rfl rfl rfl rfl rfl rfl ?_
  refine WL.p rfl rfl rfl (P.build rfl (fun w => bo_128 Tryz.zeroValue128 (cs := #[_, _, _, _]) rfl rfl w)) ?_
  refine WL.insert 0 Tryz.underlying130 Tryz.underlying3 (by simp [MapKept.IsKey]) rfl rfl rfl rfl rfl rfl ?_
  refine WL.p rfl rfl rfl (P.build rfl (fun w => bo_128 Tryz.zeroValue128 (cs := #[_, _, _, _]) rfl rfl w)) ?_
  refine WL.insert 0 Tryz.underlying130 Tryz.underlying3 (by simp [MapKept.IsKey]) rfl rfl rfl rfl rfl rfl ?_
  refine WL.p rfl rfl rfl (P.build rfl (fun w => bo_128 Tryz.zeroValue128 (cs := #[_, _, _, _]) rfl rfl w)) ?_
  refine WL.insert 0 Tryz.underlying130 Tryz.underlying3 (by simp [MapKept.IsKey]) rfl rfl rfl rfl rfl rfl ?_
  refine WL.p rfl rfl rfl (P.build rfl (fun w => bo_128 Tryz.zeroValue128 (cs := #[_, _, _, _]) rfl rfl w)) ?_
  refine WL.insert 0 Tryz.underlying130 Tryz.underlying3 (by simp [MapKept.IsKey]) rfl rfl rfl rfl rfl rfl ?_
  refine WL.p rfl rfl rfl (P.move rfl) ?_
  refine WL.p rfl rfl rfl (P.assign rfl) ?_
  refine WL.nil_ ?_
  refine End.seq ?_
  refine WC.ret ?_
  refine End.ret1 rfl rfl ?_
  exact fun w' hs' => ⟨b1, trivial, rfl, hs'⟩

abbrev gb (e : E) : ByteArray := grpOut bempty e.limit e.last e.empty e.owner
theorem inB_one {lo hi x : Int} (h : inB lo hi [x] = true) : lo ≤ x ∧ x ≤ hi := by simpa [inB] using h

set_option maxRecDepth 100000 in
theorem open_ro (r : Nat) (x : Rd) (w : World) (h0 : w.cell? ⟨r, 0, none⟩ = some (.string x.1)) (h1 : w.cell? ⟨r, 1, none⟩ = some (.int .i64 x.2)) :
    Calls Tryz.prog 231 #[.pointer (some ⟨r, 0, none⟩)] w (RetV w (.bool (decide (x.2 = 0 ∧ x.1 ≠ bempty)))) := by
  refine enter Tryz.func231 rfl Tryz.ntmps231 rfl ?_
  refine WC.seq ?_
  refine WC.region ?_
  refine WL.p rfl rfl rfl (P.assign rfl) ?_
  refine WL.nil_ ?_
  refine End.seq ?_
  refine WC.seq ?_
  refine WC.region ?_
  refine WL.p rfl rfl rfl (P.move rfl) ?_
  refine WL.p rfl rfl rfl (P.nilCheck rfl) ?_
  refine WL.p rfl rfl rfl (P.fieldAddr fa_244_1 rfl) ?_
  refine WL.p rfl rfl rfl (P.loadB Tryz.isAgg26 rfl h1) ?_
  refine WL.p rfl rfl rfl (P.cmp rfl rfl rfl) ?_
  refine WL.p rfl rfl rfl (P.move rfl) ?_
  refine WL.split 8 rfl (fun hs8 => ?_) (fun hs8 => ?_)
  ·
    try simp only [decide_eq_true_eq, decide_eq_false_iff_not, beq_iff_eq, beq_eq_false_iff_ne, bne_iff_ne, bne_eq_false_iff_eq, Bool.not_eq_true', Bool.not_eq_false', ne_eq, Int.not_lt, Int.not_le] at hs8
    refine WL.p rfl rfl rfl (P.move rfl) ?_
    refine WL.p rfl rfl rfl (P.nilCheck rfl) ?_
    refine WL.p rfl rfl rfl (P.fieldAddr fa_244_0 rfl) ?_
    refine WL.p rfl rfl rfl (P.loadB Tryz.isAgg9 rfl h0) ?_
    refine WL.p rfl rfl rfl (P.cmps rfl rfl rfl) ?_
    refine WL.p rfl rfl rfl (P.pickT rfl rfl) ?_
    refine WL.p rfl rfl rfl (P.assign rfl) ?_
    refine WL.nil_ ?_
    refine End.seq ?_
    refine WC.ret ?_
    refine End.ret1 rfl rfl ?_
    exact fun w' hs' => RetV.of (by congr 1; rw [Bool.eq_iff_iff]; simp [hs8, toList_nil]) hs'
  ·
    try simp only [decide_eq_true_eq, decide_eq_false_iff_not, beq_iff_eq, beq_eq_false_iff_ne, bne_iff_ne, bne_eq_false_iff_eq, Bool.not_eq_true', Bool.not_eq_false', ne_eq, Int.not_lt, Int.not_le] at hs8
    refine WL.off rfl rfl ?_
    refine WL.off rfl rfl ?_
    refine WL.off rfl rfl ?_
    refine WL.off rfl rfl ?_
    refine WL.off rfl rfl ?_
    refine WL.p rfl rfl rfl (P.pickF rfl rfl) ?_
    refine WL.p rfl rfl rfl (P.assign rfl) ?_
    refine WL.nil_ ?_
    refine End.seq ?_
    refine WC.ret ?_
    refine End.ret1 rfl rfl ?_
    exact fun w' hs' => RetV.of (by congr 1; rw [Bool.eq_iff_iff]; simp [hs8]) hs'

set_option maxRecDepth 100000 in
theorem end_ro (r : Nat) (x : Rd) (w : World) (h0 : w.cell? ⟨r, 0, none⟩ = some (.string x.1)) (h1 : w.cell? ⟨r, 1, none⟩ = some (.int .i64 x.2)) :
    Calls Tryz.prog 144 #[.pointer (some ⟨r, 0, none⟩)] w (RetV w (.int .i64 x.end_)) := by
  refine enter Tryz.func144 rfl Tryz.ntmps144 rfl ?_
  refine WC.seq ?_
  refine WC.region ?_
  refine WL.p rfl rfl rfl (P.assign rfl) ?_
  refine WL.nil_ ?_
  refine End.seq ?_
  refine WC.seq ?_
  refine WC.region ?_
  refine WL.p rfl rfl rfl (P.move rfl) ?_
  refine WL.p rfl rfl rfl (P.makeBound rfl rfl) ?_
  refine WL.p rfl rfl rfl (P.assign rfl) ?_
  refine WL.nil_ ?_
  refine End.seq ?_
  refine WC.seq ?_
  refine WC.seq ?_
  refine WC.region ?_
  refine WL.p rfl rfl rfl (P.move rfl) ?_
  refine WL.callb (ent_of Tryz.func231 rfl rfl) rfl rfl rfl rfl (fun w hs => (open_ro r x w ((hs.below.cell (World.block_lt_of_cell? _ _ h0)).trans h0) ((hs.below.cell (World.block_lt_of_cell? _ _ h1)).trans h1)).mono fun e w' h => h.mo hs) ?_
  refine WL.nil_ ?_
  refine End.seq ?_
  refine WC.cond rfl (fun hc7 => ?_) (fun hc7 => ?_)
  ·
    try simp only [decide_eq_true_eq, decide_eq_false_iff_not, beq_iff_eq, beq_eq_false_iff_ne, bne_iff_ne, bne_eq_false_iff_eq, Bool.not_eq_true', Bool.not_eq_false', ne_eq, Int.not_lt, Int.not_le] at hc7
    refine WC.seq ?_
    refine WC.region ?_
    refine WL.p rfl rfl rfl (P.assign rfl) ?_
    refine WL.nil_ ?_
    refine End.seq ?_
    refine WC.ret ?_
    refine End.thenR ?_
    refine End.ret1 rfl rfl ?_
    exact fun w' hs' => RetV.of (by rw [Rd.end_, if_pos hc7]) hs'
  ·
    try simp only [decide_eq_true_eq, decide_eq_false_iff_not, beq_iff_eq, beq_eq_false_iff_ne, bne_iff_ne, bne_eq_false_iff_eq, Bool.not_eq_true', Bool.not_eq_false', ne_eq, Int.not_lt, Int.not_le] at hc7
    refine WC.skip ?_
    refine End.seq ?_
    refine WC.seq ?_
    refine WC.region ?_
    refine WL.p rfl rfl rfl (P.move rfl) ?_
    refine WL.p rfl rfl rfl (P.nilCheck rfl) ?_
    refine WL.p rfl rfl rfl (P.fieldAddr fa_244_1 rfl) ?_
    refine WL.p rfl rfl rfl (P.loadB Tryz.isAgg26 rfl h1) ?_
    refine WL.p rfl rfl rfl (P.assign rfl) ?_
    refine WL.nil_ ?_
    refine End.seq ?_
    refine WC.ret ?_
    refine End.ret1 rfl rfl ?_
    exact fun w' hs' => RetV.of (by rw [Rd.end_, if_neg hc7]) hs'

theorem end_st {w0 w : World} {H : List It} {j r : Nat} {x : Rd} (hs : St w0 H w) (hj : H[j]? = some (rdB r x)) : Calls Tryz.prog 144 #[.pointer (some ⟨r, 0, none⟩)] w (RetV w (.int .i64 x.end_)) :=
  end_ro r x w ((cell_blk (hs.ok j _ hj).2).trans rfl) ((cell_blk (hs.ok j _ hj).2).trans rfl)
/-- A group read back from its fields, and the reader behind it. -/
def grpRead (e : E) : E × Rd :=
  ({ E.zero with kind := e.kind, name := e.name, limit := clampN (Rd.num (gb e, 0)).1, last := clampN (Rd.num (gb e, 0)).2.num.1, empty := (Rd.num (gb e, 0)).2.num.2.bool.1, owner := ((Rd.num (gb e, 0)).2.num.2.bool.2.text 200).1 }, ((Rd.num (gb e, 0)).2.num.2.bool.2.text 200).2)
theorem name_size {s : ByteArray} (h : nameB s = true) : s.size ≤ 31 := by
  unfold nameB allB at h
  rw [Bool.and_eq_true, Bool.and_eq_true, decide_eq_true_eq, decide_eq_true_eq] at h
  omega
/-- A group is valid. -/
def groupV (e : E) : Bool := groupB e.name && (groupOK e && (decide ((grpRead e).2.end_ = 0) && decide ((grpRead e).1 = e)))
theorem entNil {w : World} {x : E} (ha : x.alt = []) (hg : x.grants = []) : EntAt w x vnil vnil :=
  ⟨⟨none, 0, by rw [ha]; rfl, by rw [ha]; exact Nat.le_refl _, by rw [ha]; exact Sl.nil _ _ _⟩, ⟨none, 0, by rw [hg]; rfl, by rw [hg]; exact Nat.le_refl _, by rw [hg]; exact Sl.nil _ _ _⟩⟩

end Go.Proofs.YtlkkiimmangplaaGreatDoor

/- Absolute, and the reference's. -/
namespace Go.Proofs.YtlkkiimmangplaaGreatDoor
open Go.RowKit
set_option linter.unusedVariables false
set_option linter.unusedSimpArgs false

/-- The number for which a relative number stands, and an error. -/
def absP (last : Int) (xs : List Int) (rel : Int) : Int × Int :=
  if last < 0 ∨ 9999 < last ∨ fits xs last = false then (0, 1) else
  if 0 < rel then (if 9999 - last < rel then (0, 8) else (last + rel, 0)) else
  if rel ≤ -(xs.length : Int) then (0, 6) else (xs.getD ((xs.length : Int) - 1 + rel).toNat 0, 0)
def genCells (base : ByteArray) (last : Int) (v : Value) : Array Value := #[.string base, .int .i64 last, v]

end Go.Proofs.YtlkkiimmangplaaGreatDoor

/- Generations rolled in. -/
namespace Go.Proofs.YtlkkiimmangplaaGreatDoor
open Go.RowKit
set_option linter.unusedVariables false
set_option linter.unusedSimpArgs false

def ints (l : List Int) : List Value := l.map (Value.int .i64)
/-- The first elements of a slice that reads as xs. -/
theorem Sl.news {w : World} {a off : Nat} {xs : List Int} (h : Sl encI 1 w (some ⟨a, off, none⟩) xs) (m : Nat) : ∀ j u, (ints (xs.take m))[j]? = some u → w.cell? ((⟨a, off, none⟩ : Addr).add j) = some u := by
  intro j u hu
  unfold ints at hu
  rw [List.getElem?_map] at hu
  cases hx : (xs.take m)[j]? with
  | none => rw [hx] at hu; cases hu
  | some x =>
    rw [hx] at hu
    simp at hu
    subst hu
    rw [List.getElem?_take] at hx
    split at hx
    · have hp : 0 < xs.length := by have := (List.getElem?_eq_some_iff.1 hx).1; omega
      obtain ⟨b, o, e, hc⟩ := h.at_ hp
      cases e
      have := hc j x hx 0 _ rfl
      rw [add0]
      simpa using this
    · cases hx

def genV (e : E) (xs : List Int) : Bool := decide (e.kind = 1) && (groupV e && fits xs e.last)
/-- One new generation: its number, what there is, what has gone. -/
def rollStep (limit : Int) (empty : Bool) (s : Int × List Int × List Int) (n : Int) : Except Int (Int × List Int × List Int) :=
  if n < 1 ∨ 9999 < n then .error 2 else if n ≤ s.1 then .error 9 else
  if ((s.2.1 ++ [n]).length : Int) - limit ≤ 0 then .ok (n, s.2.1 ++ [n], s.2.2) else
  .ok (n, (s.2.1 ++ [n]).drop (if empty then ((s.2.1 ++ [n]).length : Int) - 1 else ((s.2.1 ++ [n]).length : Int) - limit).toNat, s.2.2 ++ (s.2.1 ++ [n]).take (if empty then ((s.2.1 ++ [n]).length : Int) - 1 else ((s.2.1 ++ [n]).length : Int) - limit).toNat)
def roll (limit : Int) (empty : Bool) : Int × List Int × List Int → List Int → Except Int (Int × List Int × List Int)
  | s, [] => .ok s
  | s, n :: r => match rollStep limit empty s n with
    | .error c => .error c
    | .ok s' => roll limit empty s' r
end Go.Proofs.YtlkkiimmangplaaGreatDoor

/- Rows of own memory: their cells read and written. -/
namespace Go.Proofs.YtlkkiimmangplaaGreatDoor
open Go.RowKit
set_option linter.unusedVariables false
set_option linter.unusedSimpArgs false

theorem run_storeAt_row {t : TypeId} (hsz : Sized t 1) {w : World} {B e g n c k : Nat} {xs : List Value} {v : Value} (h1 : v.oneCell' = true) (h : w.ownsRow B e 1 (.slice (some ⟨g, 0, none⟩) n c) n xs) (hk : k < n) :
    (Instr.storeAt t (.pointer (some ⟨g, k, none⟩)) v).run Tryz.prog w = .ok () (w.setCell ⟨g, k, none⟩ v) := by
  have hc := h.cellAt k (by omega)
  have hl : xs.length = n := by have := h.1; omega
  rw [List.getElem?_eq_getElem (by omega)] at hc
  have hfr := h.frozenAt k
  have hvc : v.cells = #[v] := by cases v <;> first | rfl | simp [Value.oneCell'] at h1
  have hst : (store ⟨g, k, none⟩ v).run Tryz.prog w = .ok () (w.setCell ⟨g, k, none⟩ v) := by
    cases v <;> first | (simp [Value.oneCell'] at h1; done) | simp [store, Sem.run, hc, hfr]
  simp [Instr.storeAt, Instr.sureAddr, storeVar, Sem.run_bind, hvc, hsz w, storeCells, Addr.add, hst]
theorem St.rowSet {w0 w : World} {H : List It} (hs : St w0 H w) {j e g n c : Nat} {xs : List Value} (hj : H[j]? = some (.row e 1 (.slice (some ⟨g, 0, none⟩) n c) n xs)) (k : Nat) (u : Value) :
    St w0 (H.set j (.row e 1 (.slice (some ⟨g, 0, none⟩) n c) n (xs.set k u))) (w.setCell ⟨g, k, none⟩ u) := by
  have hr : w.ownsRow w0.heap.size e 1 (.slice (some ⟨g, 0, none⟩) n c) n xs := hs.ok j _ hj
  have hb := (hr.lt g rfl).1
  exact hs.swap j hj (fun q hq => .inl hq) (hr.stored k u).1 (hs.below.setCell (p := ⟨g, k, none⟩) hb u) (fun q _ hq => Below.heap_setCell _ _ _ _ (fun e => hq (by rw [e]; rfl)))
theorem row_at {w0 w : World} {H : List It} {j e g n c k : Nat} {xs : List Value} {u : Value} (hs : St w0 H w) (hj : H[j]? = some (.row e 1 (.slice (some ⟨g, 0, none⟩) n c) n xs)) (hx : xs[k]? = some u) : w.cell? ⟨g, k, none⟩ = some u := by
  have hr : w.ownsRow w0.heap.size e 1 (.slice (some ⟨g, 0, none⟩) n c) n xs := hs.ok j _ hj
  have := hr.cells (g := g) rfl k u hx
  rwa [add0, Nat.zero_add] at this
theorem St.asRow {w0 w : World} {H : List It} (hs : St w0 H w) {j e b m : Nat} {cs : Array Value} (hj : H[j]? = some (.blk b e cs)) (hm : cs.size = m) (hl : m ≤ maxLen) : St w0 (H.set j (.row e 1 (.slice (some ⟨b, 0, none⟩) m m) m cs.toList)) w := by
  have hb := hs.ok j _ hj
  refine hs.swap j hj (fun q hq => .inl hq) ⟨by simp [hm], .inr ⟨b, m, cs, rfl, hb.1, hb.2, Nat.le_refl _, hl, by omega, List.take_of_length_le (by simp [hm])⟩⟩ hs.below (fun q _ _ => rfl)
section
variable {w0 : World} {n : Nat} {ops : Array Oper} {Q : Exit → Act → World → Prop} {o : Oper} {rest : List Oper} {ρ : Env} {H : List It}
variable {d : Nat} {ty t t' : TypeId} {pos : String} {af : Array Edge} {g : Option (Nat × Bool)} {x y z : Operand} {v u : Value}
theorem WL.asRow {l : List Oper} (j : Nat) {e b m : Nat} {cs : Array Value} (hj : H[j]? = some (.blk b e cs)) (hm : cs.size = m) (hl : m ≤ maxLen) (k : WL w0 n ops Q l ρ (H.set j (.row e 1 (.slice (some ⟨b, 0, none⟩) m m) m cs.toList))) : WL w0 n ops Q l ρ H := fun a w hf hs => k a w hf (hs.asRow hj hm hl)
theorem WC.asRow {c : Code} (j : Nat) {e b m : Nat} {cs : Array Value} (hj : H[j]? = some (.blk b e cs)) (hm : cs.size = m) (hl : m ≤ maxLen) (k : WC w0 n Q c ρ (H.set j (.row e 1 (.slice (some ⟨b, 0, none⟩) m m) m cs.toList))) : WC w0 n Q c ρ H := fun a w hf hs => k a w hf (hs.asRow hj hm hl)
theorem P.loadR (j : Nat) {b off e n' c : Nat} {xs : List Value} (hag : NoAgg t) (hx : ev ρ x = some (.pointer (some ⟨b, off, none⟩))) (hj : H[j]? = some (.row e 1 (.slice (some ⟨b, 0, none⟩) n' c) n' xs)) (hv : xs[off]? = some v) : Pure w0 n ρ H ⟨some d, .load t x, ty, pos, af, g⟩ v :=
  P.loadH hag hx fun w hs => row_at hs hj hv
theorem WL.storeR (j : Nat) {b off e n' c : Nat} {xs : List Value} (hsz : Sized t 1) (hon : onB ops ρ ⟨none, .store t x y, ty, pos, af, g⟩ = some true) (hx : ev ρ x = some (.pointer (some ⟨b, off, none⟩))) (hy : ev ρ y = some v) (h1 : v.oneCell' = true) (hj : H[j]? = some (.row e 1 (.slice (some ⟨b, 0, none⟩) n' c) n' xs))
    (ho : off < n') (k : WL w0 n ops Q rest ρ (H.set j (.row e 1 (.slice (some ⟨b, 0, none⟩) n' c) n' (xs.set off v)))) : WL w0 n ops Q (⟨none, .store t x y, ty, pos, af, g⟩ :: rest) ρ H :=
  WL.skip_ hon rfl (fun a w hf hs => ⟨_, by simp [execOp, hf.eval hx, hf.eval hy, run_storeAt_row hsz h1 (hs.ok j _ hj) ho], hs.rowSet hj off v⟩) k
theorem WL.cast {H' : List It} {l : List Oper} (h : H = H') (k : WL w0 n ops Q l ρ H') : WL w0 n ops Q l ρ H := h ▸ k
/-- append of at least one to an own row. -/
theorem WL.push (j : Nat) {e size bytes l m c' lt : Nat} {zv : Value} {a : Addr} {xs news all : List Value} (hel : ElT t e size bytes zv) (hon : onB ops ρ ⟨some d, .call ⟨.builtin .append, #[x, y], #[t, t]⟩, ty, pos, af, g⟩ = some true) (hd : Nat.blt d n = true) (hx : ev ρ x = some v) (hj : H[j]? = some (.row e size v l xs)) (hy : ev ρ y = some (.slice (some a) m c'))
    (hl : news.length = m * size) (hnews : ∀ w, St w0 H w → ∀ j u, news[j]? = some u → w.cell? (a.add j) = some u) (h1 : ∀ u ∈ news, u.oneCell' = true) (hall : xs ++ news = all) (hlt : l + m = lt) (hm : 0 < m) (h63 : l + m ≤ maxLen) (hbytes : (l + m) * bytes ≤ 140737488355328)
    (k : ∀ q cap, lt ≤ cap → WL w0 n ops Q rest ((d, .slice (some ⟨q, 0, none⟩) lt cap) :: ρ) (H.set j (.row e size (.slice (some ⟨q, 0, none⟩) lt cap) lt all))) : WL w0 n ops Q (⟨some d, .call ⟨.builtin .append, #[x, y], #[t, t]⟩, ty, pos, af, g⟩ :: rest) ρ H := by
  subst hall hlt
  exact WL.valx (S := fun p : Nat × Nat => l + m ≤ p.2) (v := fun p => .slice (some ⟨p.1, 0, none⟩) (l + m) p.2) (H' := fun p => H.set j (.row e size (.slice (some ⟨p.1, 0, none⟩) (l + m) p.2) (l + m) (xs ++ news))) hon rfl hd (fun act w hf hs => by
    obtain ⟨v', w', h2, h3, h4⟩ := append_own (ty := ty) hel hs j hj a m c' news hl (hnews w hs) h1 h63 hbytes
    have hlen : j < H.length := (List.getElem?_eq_some_iff.1 hj).1
    have hrow := h3.ok j _ (List.getElem?_set_self hlen)
    rcases hrow.2 with ⟨_, h5⟩ | ⟨q, cap, cur, rfl, _, _, h6, _⟩
    · omega
    · exact ⟨(q, cap), w', h6, by simp [execOp, resolve, invoke, builtin, hf.eval hx, hf.eval hy, h2], h3⟩) (fun p hp => k p.1 p.2 hp)
variable {vs : List (Lt → Value)} {Hs : (Nat → Bool) → Lt → List It} {al : List Nat} {i : Nat}
theorem Stp.storeR (j : Nat) (hsz : Sized t 1) (hr : ∀ (b : Nat → Bool) (s : Lt), (∀ j ∈ dps ⟨none, .store t x y, ty, pos, af, g⟩, b j = true) → ∃ (q off e n' c : Nat) (xs : List Value) (v : Value), (onB ops (envOf ops (fun j => nth vs j s) (dps ⟨none, .store t x y, ty, pos, af, g⟩) ++ ρ) ⟨none, .store t x y, ty, pos, af, g⟩ = some true) ∧
      ev (envOf ops (fun j => nth vs j s) (dps ⟨none, .store t x y, ty, pos, af, g⟩) ++ ρ) x = some (.pointer (some ⟨q, off, none⟩)) ∧ ev (envOf ops (fun j => nth vs j s) (dps ⟨none, .store t x y, ty, pos, af, g⟩) ++ ρ) y = some v ∧ v.oneCell' = true ∧ off < n' ∧
      (∃ Y, (Hs b s)[j]? = some (bif b i then Y else .row e 1 (.slice (some ⟨q, 0, none⟩) n' c) n' xs)) ∧ nth vs i s = undef ∧ (b i = false → Hs (up b i) s = (Hs b s).set j (.row e 1 (.slice (some ⟨q, 0, none⟩) n' c) n' (xs.set off v)))) : Stp w0 n ops Q ρ vs Hs al i ⟨none, .store t x y, ty, pos, af, g⟩ := fun b s hcl hb hd => by
  obtain ⟨q, off, e, n', c, xs, v, hon, hx, hy, h1, ho, ⟨Y, hj⟩, hu, hH⟩ := hr b s hd
  rw [hb] at hj
  simp only [cond_false] at hj
  refine OS.skip_ hon fun a w hf hs => ?_
  refine ⟨w.setCell ⟨q, off, none⟩ v, ?_, s, .inl rfl, hu.symm, ?_⟩
  · simp [execOp, hf.eval hx, hf.eval hy, run_storeAt_row hsz h1 (hs.ok j _ hj) ho]
  · rw [hH hb]
    exact hs.rowSet hj off v
end
theorem envOf_keys {ops : Array Oper} {val : Nat → Value} : ∀ {l : List Nat} {q : Nat × Value}, q ∈ envOf ops val l → q.1 ∈ dstsOf ops
  | [], q, h => by cases h
  | j :: r, q, h => by
    unfold envOf at h
    split at h
    · rename_i d hd
      rcases List.mem_cons.1 h with rfl | h
      · cases ho : ops[j]? with
        | none => rw [ho] at hd; cases hd
        | some o =>
          rw [ho] at hd
          exact List.mem_filterMap.2 ⟨o, by simpa using Array.mem_of_getElem? ho, hd⟩
      · exact envOf_keys h
    · exact envOf_keys h
/-- Behind a drawing region: its slots, and the others as they were. -/
theorem End.shapeC {w0 : World} {n : Nat} {Q : Exit → Act → World → Prop} {H H' : List It} {ops : Array Oper} {val : Nat → Value} {l : List Nat} {ρ new : Env} {e : Exit} (hc : cleanB ops n ρ = true) (hn : Env.sub new (envOf ops val l ++ clean ops ρ)) (h2 : H = H') (k : End w0 n Q e (new ++ ρ) H') : End w0 n Q e (envOf ops val l ++ clean ops ρ) H := by
  unfold cleanB at hc
  rw [Bool.and_eq_true, List.all_eq_true] at hc
  have hcl : clean ops ρ = ρ := List.filter_eq_self.2 hc.1
  refine End.shape (ρ' := new ++ ρ) (fun i v hi => ?_) h2 k
  rw [Env.find_app] at hi
  cases hq : Env.find new i with
  | some u =>
    rw [hq] at hi
    simp at hi
    subst hi
    exact hn i u hq
  | none =>
    rw [hq] at hi
    simp only at hi
    rw [hcl, Env.find_app]
    cases ht : Env.find (envOf ops val l) i with
    | none => exact hi
    | some u =>
      exfalso
      have h1 := envOf_keys (Env.find_mem ht)
      have h3 := hc.1 _ (Env.find_mem hi)
      simp at h3
      exact h3 h1
def strs (l : List ByteArray) : List Value := l.map Value.string
theorem strs_one (l : List ByteArray) : ∀ u ∈ strs l, u.oneCell' = true := by
  intro u hu
  obtain ⟨x, _, rfl⟩ := List.mem_map.1 hu
  rfl
theorem strs_get {l : List ByteArray} {k : Nat} {x : ByteArray} (h : l[k]? = some x) : (strs l)[k]? = some (.string x) := by simp [strs, h]
theorem strs_app (a b : List ByteArray) : strs a ++ strs b = strs (a ++ b) := by simp [strs]
theorem strs_set (l : List ByteArray) (k : Nat) (x : ByteArray) : (strs l).set k (.string x) = strs (l.set k x) := by simp [strs, List.map_set]
theorem slS_item {w0 w : World} {H : List It} {j n c : Nat} {A : Option Addr} {xs : List ByteArray} (hs : St w0 H w) (hj : H[j]? = some (.row 9 1 (.slice A n c) n (strs xs))) (hl : xs.length ≤ 140737488351232) : Sl encS 1 w A xs := by
  refine ⟨by omega, fun hp => ?_⟩
  have hr := hs.ok j _ hj
  rcases hr.2 with ⟨h1, h2⟩ | ⟨g, cap, cur, hv, _, hg, _⟩
  · have := hr.1
    simp [strs] at this
    omega
  · cases hv
    refine ⟨g, 0, rfl, fun k x hx i u hu => ?_⟩
    cases i with
    | succ i => simp [encS] at hu
    | zero =>
      simp [encS] at hu
      subst hu
      have := row_at hs hj (strs_get hx)
      simpa using this
theorem Sl.take {α : Type} {enc : α → List Value} {sz : Nat} {w : World} {A : Option Addr} {xs : List α} (h : Sl enc sz w A xs) (m : Nat) : Sl enc sz w A (xs.take m) := by
  refine ⟨by have := h.1; rw [List.length_take]; omega, fun hp => ?_⟩
  rw [List.length_take] at hp
  obtain ⟨b, off, rfl, hc⟩ := h.at_ (by omega)
  refine ⟨b, off, rfl, fun k x hx i u hu => hc k x ?_ i u hu⟩
  rw [List.getElem?_take] at hx
  split at hx
  · exact hx
  · cases hx
/-- The cells of a block, as what append takes. -/
theorem news_blk {w0 w : World} {H : List It} (hs : St w0 H w) {j e b : Nat} {cs : Array Value} (hj : H[j]? = some (.blk b e cs)) {l : List Value} (hl : l = cs.toList) : ∀ i u, l[i]? = some u → w.cell? ((⟨b, 0, none⟩ : Addr).add i) = some u := fun i u hu => by
  subst hl
  rw [add0, Nat.zero_add, cell_blk (hs.ok j _ hj).2]
  simpa using hu
theorem el48 : ElT 48 9 1 16 (.string ⟨#[]⟩) := ElT.of Tryz.underlying48 (by kernel_rfl) rfl (by decide)

end Go.Proofs.YtlkkiimmangplaaGreatDoor

/- append of any slice; the greater and the smaller of two numbers. -/
namespace Go.Proofs.YtlkkiimmangplaaGreatDoor
open Go.RowKit
set_option linter.unusedVariables false
set_option linter.unusedSimpArgs false

section
variable {w0 : World} {n : Nat} {ops : Array Oper} {Q : Exit → Act → World → Prop} {o : Oper} {rest : List Oper} {ρ : Env} {H : List It}
variable {d : Nat} {ty t t' : TypeId} {pos : String} {af : Array Edge} {g : Option (Nat × Bool)} {x y z : Operand} {v u : Value}
variable {vs : List (Lt → Value)} {Hs : (Nat → Bool) → Lt → List It} {al : List Nat} {i : Nat}
end
/-- What append takes of a slice that reads. -/
theorem Sl.src {w : World} {A : Option Addr} {xs : List Int} {c m : Nat} (h : Sl encI 1 w A xs) (hc : A = none → c = 0) (hm : m ≤ xs.length) : (A = none ∧ m = 0 ∧ c = 0) ∨ ∃ a, A = some a ∧ ∀ j u, (ints (xs.take m))[j]? = some u → w.cell? (a.add j) = some u := by
  cases A with
  | none =>
    refine .inl ⟨rfl, ?_, hc rfl⟩
    rcases Nat.eq_zero_or_pos xs.length with h0 | h0
    · omega
    · obtain ⟨b, off, e, _⟩ := h.at_ h0
      cases e
  | some a =>
    refine .inr ⟨a, rfl, ?_⟩
    rcases Nat.eq_zero_or_pos xs.length with h0 | h0
    · have : xs = [] := List.length_eq_zero_iff.1 h0
      subst this
      intro j u hu
      simp [ints] at hu
    · obtain ⟨b, off, e, _⟩ := h.at_ h0
      cases e
      exact h.news m

end Go.Proofs.YtlkkiimmangplaaGreatDoor

/- fold. -/
namespace Go.Proofs.YtlkkiimmangplaaGreatDoor
open Go.RowKit
set_option linter.unusedVariables false
set_option linter.unusedSimpArgs false

theorem St.nil {w0 w : World} {H : List It} (hs : St w0 H w) : St w0 (.nil :: H) w := ⟨hs.below, fun i x hi => by
  cases i with
  | zero => simp at hi; subst hi; trivial
  | succ i => exact hs.ok i x (by simpa using hi), fun i j x y hx hy hij k hk => by
  cases i with
  | zero => simp at hx; subst hx; cases hk
  | succ i =>
    cases j with
    | zero => simp at hy; subst hy; intro h; cases h
    | succ j => exact hs.apart i j x y (by simpa using hx) (by simpa using hy) (by omega) k hk⟩
theorem Sl.drop {w : World} {a off : Nat} {xs : List Int} (h : Sl encI 1 w (some ⟨a, off, none⟩) xs) (m : Nat) : Sl encI 1 w (some ⟨a, off + m, none⟩) (xs.drop m) := by
  refine ⟨by have := h.1; rw [List.length_drop]; omega, fun hp => ?_⟩
  rw [List.length_drop] at hp
  obtain ⟨b, o, e, hc⟩ := h.at_ (by omega)
  cases e
  refine ⟨a, off + m, rfl, fun k x hx i u hu => ?_⟩
  rw [List.getElem?_drop] at hx
  have := hc (m + k) x hx i u hu
  rw [show off + m + ((k : Nat) : Int).toNat * 1 + i = off + (((m + k : Nat) : Int)).toNat * 1 + i by omega]
  exact this
def foldP (e : E) (xs ls : List Int) : Except Int (Int × List Int × List Int) := if genV e xs = true then roll e.limit e.empty (e.last, xs, []) ls else .error 1
/-- What fold hands back. -/
def FoldR (w : World) (e : E) (va vg : Value) (r : Except Int (Int × List Int × List Int)) : Ending → World → Prop := match r with
  | .error c => RetV w (.tuple #[.agg (E.zero.cells vnil vnil), vnil, vnil, .int .i64 c])
  | .ok (last, now, gone) => Ret w (fun p : Option Addr × Nat × Value × It => (∀ B w', St B [.row 3 1 p.2.2.1 gone.length (ints gone), p.2.2.2] w' → Sl encI 1 w' p.1 now) ∧ now.length ≤ p.2.1 ∧ now.length ≤ 1000 ∧ gone.length ≤ 1000)
      (fun p => .tuple #[.agg ({ e with last := last }.cells va vg), .slice p.1 now.length p.2.1, p.2.2.1, .int .i64 0]) (fun p => [.row 3 1 p.2.2.1 gone.length (ints gone), p.2.2.2])
end Go.Proofs.YtlkkiimmangplaaGreatDoor

/- Parts of slices; calls in a drawing region that lay one thing. -/
namespace Go.Proofs.YtlkkiimmangplaaGreatDoor
open Go.RowKit
set_option linter.unusedVariables false
set_option linter.unusedSimpArgs false

section
variable {w0 : World} {n : Nat} {ops : Array Oper} {Q : Exit → Act → World → Prop} {o : Oper} {rest : List Oper} {ρ : Env} {H : List It}
variable {d : Nat} {ty t t' : TypeId} {pos : String} {af : Array Edge} {g : Option (Nat × Bool)} {x y z : Operand} {v u : Value}
/-- The address of a part from i on; at the end of the room it stays. -/
def cutA (A : Option Addr) (i c sz : Nat) : Option Addr := if c = i then A else A.map (·.add (i * sz))
variable {vs : List (Lt → Value)} {Hs : (Nat → Bool) → Lt → List It} {al : List Nat} {i : Nat}
/-- A call that lays one new thing, told by two numbers. -/
theorem Stp.callx2 {f : FuncId} {xs : List Operand} {ats : Array TypeId} (j : Nat) (he : Ent f) (hi : al.contains i = true) (hr : ∀ (b : Nat → Bool) (s : Lt), b i = false → (∀ j ∈ dps ⟨some d, .call ⟨.value (.func f), xs.toArray, ats⟩, ty, pos, af, g⟩, b j = true) → ∃ (us : List Value) (S : Nat × Nat → Prop) (v : Nat × Nat → Value) (X : Nat × Nat → It), (onB ops (envOf ops (fun j => nth vs j s) (dps ⟨some d, .call ⟨.value (.func f), xs.toArray, ats⟩, ty, pos, af, g⟩) ++ ρ) ⟨some d, .call ⟨.value (.func f), xs.toArray, ats⟩, ty, pos, af, g⟩ = some true) ∧
      evl (envOf ops (fun j => nth vs j s) (dps ⟨some d, .call ⟨.value (.func f), xs.toArray, ats⟩, ty, pos, af, g⟩) ++ ρ) xs = some us ∧
      (∀ w, St w0 (Hs b s) w → Calls Tryz.prog f us.toArray w (Ret w S v (fun q => [X q]))) ∧ (∀ q, v q = nth vs i (updl s i q)) ∧ (∃ Y, (Hs b s)[j]? = some (bif b i then Y else .nil)) ∧ ∀ q, Hs (up b i) (updl s i q) = (Hs b s).set j (X q)) : Stp w0 n ops Q ρ vs Hs al i ⟨some d, .call ⟨.value (.func f), xs.toArray, ats⟩, ty, pos, af, g⟩ := fun b s hcl hb hd => by
  obtain ⟨us, S, v, X, hon, hx, hc, hv, ⟨Y, hj⟩, hH⟩ := hr b s hb hd
  rw [hb] at hj
  refine OS.callG (cap := #[]) he rfl hon rfl hx fun w hs => ?_
  rw [Array.append_empty]
  refine (hc w hs).mono fun e w' h => ?_
  obtain ⟨q, _, rfl, h2⟩ := h
  refine ⟨v q, rfl, _, .inr ⟨by simpa using hi, q, rfl⟩, hv q, ?_⟩
  rw [hH q]
  have h3 : St w0 ([X q] ++ (Hs b s)) w' := hs.call h2
  refine hs.swap j hj (fun k hk => .inr (It.base (h2.ok 0 _ rfl) hk).1) (It.lower (h2.ok 0 _ rfl) hs.size) h3.below (fun k hk _ => h2.below.block k hk)
end
theorem Sl.cut {w : World} {A : Option Addr} {xs : List Int} {c : Nat} (h : Sl encI 1 w A xs) (i : Nat) (hc : xs.length ≤ c) : Sl encI 1 w (cutA A i c 1) (xs.drop i) := by
  refine ⟨by have := h.1; rw [List.length_drop]; omega, fun hp => ?_⟩
  rw [List.length_drop] at hp
  obtain ⟨b, off, rfl, hcl⟩ := h.at_ (by omega)
  refine ⟨b, off + i, ?_, fun k x hx j u hu => ?_⟩
  · unfold cutA
    rw [if_neg (by omega)]
    simp [add0]
  · rw [List.getElem?_drop] at hx
    have := hcl (i + k) x hx j u hu
    rw [show off + i + ((k : Nat) : Int).toNat * 1 + j = off + (((i + k : Nat) : Int)).toNat * 1 + j by omega]
    exact this
theorem E.one (e : E) {va vg : Value} (h1 : va.oneCell' = true) (h2 : vg.oneCell' = true) : (e.cells va vg).toList.all Value.oneCell' = true := by
  show (_ && _) = true
  simp [E.cells, Value.oneCell', h1, h2] at *
  simp [h1, h2]

end Go.Proofs.YtlkkiimmangplaaGreatDoor

/- Drawing regions that write anew a slot that they read. -/
namespace Go.Proofs.YtlkkiimmangplaaGreatDoor
open Go.RowKit
set_option linter.unusedVariables false
set_option linter.unusedSimpArgs false

/-- Slots that the region writes anew, as they stand while operation i runs: who writes them comes behind i. -/
def oldK (ops : Array Oper) (i k : Nat) : Bool := (dstsOf ops).contains k && (List.range ops.size).all fun j => match (ops[j]?).bind (·.dst) with
  | some d => !(Nat.beq d k) || (Nat.beq j i || reachB ops 64 j i)
  | none => true
def oldOf (ops : Array Oper) (ρ : Env) (i : Nat) : Env := ρ.filter fun e => oldK ops i e.1
theorem filter_find {p : Nat → Bool} : ∀ {ρ : Env} {i : Nat} {v : Value}, Env.find (ρ.filter fun e => p e.1) i = some v → p i = true ∧ Env.find ρ i = some v
  | [], i, v, h => by cases h
  | (k, u) :: r, i, v, h => by
    rw [List.filter_cons] at h
    split at h
    · rename_i hk
      unfold Env.find at h ⊢
      cases hq : Nat.beq k i with
      | true =>
        rw [hq] at h
        have e := Nat.eq_of_beq_eq_true hq
        subst e
        exact ⟨hk, h⟩
      | false => rw [hq] at h; exact filter_find h
    · rename_i hk
      obtain ⟨h1, h2⟩ := filter_find h
      refine ⟨h1, ?_⟩
      unfold Env.find
      cases hq : Nat.beq k i with
      | true =>
        have e := Nat.eq_of_beq_eq_true hq
        subst e
        exact absurd h1 hk
      | false => exact h2
section
variable {w0 : World} {n : Nat} {ops : Array Oper} {Q : Exit → Act → World → Prop} {ρ : Env} {H : List It} {id : Nat}
theorem WC.inv2 {σ : Type} (val : Nat → σ → Value) (Hs : (Nat → Bool) → σ → List It) (S : (Nat → Bool) → σ → Prop) (s0 : σ) (hSc : ∀ b s, S b s → Closed ops b) (hac : acycB ops = true) (hdo : dstOk ops = true) (hcl : (dstsOf ops).all (fun d => Nat.blt d n) = true)
    (h0 : Hs (fun _ => false) s0 = H) (hS0 : S (fun _ => false) s0) (steps : ∀ (i : Nat) (o : Oper), ops[i]? = some o → ∀ b s, b i = false → (∀ j ∈ dps o, b j = true) → S b s → OS w0 n ops Q o (envOf ops (fun j => val j s) (dps o) ++ (clean ops ρ ++ oldOf ops ρ i)) (Hs b s)
      (fun v w' => ∃ s', v = val i s' ∧ S (up b i) s' ∧ (∀ j, b j = true → val j s' = val j s) ∧ St w0 (Hs (up b i) s') w'))
    (fin : ∀ s, S (fun i => Nat.blt i ops.size) s → End w0 n Q .normal (envOf ops (fun j => val j s) (List.range ops.size) ++ clean ops ρ) (Hs (fun i => Nat.blt i ops.size) s)) : WC w0 n Q (.region id ops true) ρ H := fun a w hf hs => by
  refine wp_region_any mixed ?_
  simp only [List.all_eq_true] at hcl
  -- slots that no operation done so far has written
  refine wpAny_inv (fun L a w => ∃ s, S (fun i => L.getD i false) s ∧ (a.defers = [] ∧ a.tmps.size = n ∧ ∀ k v, Env.find ρ k = some v → (∀ j, L.getD j false = true → (ops[j]?).bind (·.dst) ≠ some k) → a.tmps[k]? = some v) ∧ (∀ j, L.getD j false = true → ∀ d, (ops[j]?).bind (·.dst) = some d → a.tmps[d]? = some (val j s)) ∧ St w0 (Hs (fun i => L.getD i false) s) w) hac ?_ ?_ _ _ _ _ (by simp) ?_ ?_
  · rintro L a w i o hL ⟨s, hS, hf, hv, hs⟩ ho hi hd K hK
    have hlt : i < ops.size := (Array.getElem?_eq_some_iff.1 ho).1
    have hclosed := hSc _ _ hS
    have hfit : Fits n (clean ops ρ ++ oldOf ops ρ i) a := ⟨hf.1, hf.2.1, fun k v hk => by
      rw [Env.find_app] at hk
      cases hq : Env.find (clean ops ρ) k with
      | some u =>
        rw [hq] at hk
        simp at hk
        subst hk
        obtain ⟨h1, h2⟩ := filter_find (p := fun k => !((dstsOf ops).contains k)) hq
        refine hf.2.2 k u h2 fun j _ hjd => ?_
        have hm : k ∈ dstsOf ops := by
          cases hoj : ops[j]? with
          | none => rw [hoj] at hjd; cases hjd
          | some p => rw [hoj] at hjd; exact List.mem_filterMap.2 ⟨p, by simpa using Array.mem_of_getElem? hoj, hjd⟩
        simp at h1
        exact h1 hm
      | none =>
        rw [hq] at hk
        obtain ⟨h1, h2⟩ := filter_find (p := oldK ops i) hk
        refine hf.2.2 k v h2 fun j hj hjd => ?_
        have hjl : j < ops.size := by
          cases hoj : ops[j]? with
          | none => rw [hoj] at hjd; cases hjd
          | some p => exact (Array.getElem?_eq_some_iff.1 hoj).1
        unfold oldK at h1
        rw [Bool.and_eq_true] at h1
        have h3 := List.all_eq_true.1 h1.2 j (List.mem_range.2 hjl)
        rw [hjd] at h3
        simp only [Bool.or_eq_true, Nat.beq_refl, Bool.not_true, Bool.false_eq_true, false_or] at h3
        have hbi : L.getD i false = true := by
          rcases h3 with h3 | h3
          · rw [← Nat.eq_of_beq_eq_true h3]; exact hj
          · exact reach_closed hclosed _ _ _ h3 hj
        have hi' : L.getD i false = false := hi
        rw [hi'] at hbi; cases hbi⟩
    have hst := steps i o ho (fun i => L.getD i false) s (by simpa using hi) hd hS
    refine hst a w (Fits.env hfit _ (fun j hj d hjd => hv j (hd j hj) d hjd)) hs K (fun v w' hT => hK _ _ ?_)
    obtain ⟨s', rfl, hS', hag, hs'⟩ := hT
    have hup : up (fun i => L.getD i false) i = fun j => (L.setIfInBounds i true).getD j false := by
      funext j
      unfold up
      cases hq : Nat.beq j i with
      | true =>
        have := Nat.eq_of_beq_eq_true hq
        subst this
        simp [hL, hlt]
      | false =>
        have hne : i ≠ j := fun e => by subst e; simp at hq
        simp [Array.getElem?_setIfInBounds_ne hne]
    rw [hup] at hS' hs'
    refine ⟨s', hS', ?_, ?_, hs'⟩
    · refine ⟨?_, ?_, fun k u hk hno => ?_⟩
      · cases o.dst <;> exact hf.1
      · cases hod : o.dst with
        | none => exact hf.2.1
        | some d => simp [Act.put, hf.2.1]
      · have hdone : ∀ j, L.getD j false = true → (ops[j]?).bind (·.dst) ≠ some k := fun j hj => hno j (by
          by_cases hji : i = j
          · subst hji; simp [hL, hlt]
          · simpa [Array.getElem?_setIfInBounds_ne hji] using hj)
        have h1 := hf.2.2 k u hk hdone
        cases hod : o.dst with
        | none => exact h1
        | some d =>
          have hne : d ≠ k := fun e => by
            subst e
            exact hno i (by simp [hL, hlt]) (by rw [ho]; exact hod)
          simp only [Act.put]
          rw [Array.getElem?_setIfInBounds_ne hne]
          exact h1
    · intro j hj d hjd
      cases hoj : ops[j]? with
      | none => rw [hoj] at hjd; simp at hjd
      | some p =>
        rw [hoj] at hjd
        simp at hjd
        by_cases hji : i = j
        · subst hji
          rw [ho] at hoj
          injection hoj with e
          subst e
          have hdm : d ∈ dstsOf ops := List.mem_filterMap.2 ⟨o, by simpa using Array.mem_of_getElem? ho, hjd⟩
          have hdn := hcl d hdm
          have hdn' : d < n := by simpa [Nat.blt, Nat.succ_le_iff] using hdn
          simp [hjd, Act.put, hf.2.1, hdn']
        · have hj' : L.getD j false = true := by
            simpa [Array.getElem?_setIfInBounds_ne hji] using hj
          have h1 := hv j hj' d (by rw [hoj]; simpa using hjd)
          rw [hag j hj']
          cases hod : o.dst with
          | none => exact h1
          | some d' =>
            have hne : d' ≠ d := fun e => by
              subst e
              exact hji (dst_inj hdo ho hoj hod hjd)
            simp only [Act.put]
            rw [Array.getElem?_setIfInBounds_ne hne]
            exact h1
  · rintro L a w ⟨s, hS, hf, hv, hs⟩ hL hall
    have hb : (fun i => L.getD i false) = fun i => Nat.blt i ops.size := by
      funext i
      rcases Nat.lt_or_ge i ops.size with h | h
      · have h1 := hall i h
        have h2 : Nat.blt i ops.size = true := by simpa [Nat.blt, Nat.succ_le_iff] using h
        rw [h2]; exact h1
      · have h2 : Nat.blt i ops.size = false := by
          cases hq : Nat.blt i ops.size with
          | false => rfl
          | true => simp [Nat.blt, Nat.succ_le_iff] at hq; omega
        have h3 : ¬ i < L.size := by omega
        rw [h2]
        simp [h3]
    rw [hb] at hS hs
    have hfit : Fits n (clean ops ρ) a := ⟨hf.1, hf.2.1, fun k v hk => by
      obtain ⟨h1, h2⟩ := filter_find (p := fun k => !((dstsOf ops).contains k)) hk
      refine hf.2.2 k v h2 fun j _ hjd => ?_
      have hm : k ∈ dstsOf ops := by
        cases hoj : ops[j]? with
        | none => rw [hoj] at hjd; cases hjd
        | some p => rw [hoj] at hjd; exact List.mem_filterMap.2 ⟨p, by simpa using Array.mem_of_getElem? hoj, hjd⟩
      simp at h1
      exact h1 hm⟩
    exact fin s hS a w (Fits.env hfit _ (fun j hj d hjd => hv j (hall j (List.mem_range.1 hj)) d hjd)) hs
  · unfold todo
    exact Nat.le_trans (List.countP_le_length) (by simp)
  · have hb : (fun i => (Array.replicate ops.size false).getD i false) = fun _ => false := by
      funext i
      rcases Nat.lt_or_ge i ops.size with h | h
      · simp [Array.getElem?_replicate, h]
      · simp [Array.getElem?_replicate, Nat.not_lt.2 h]
    refine ⟨s0, by rw [hb]; exact hS0, ⟨hf.defers, hf.size, fun k v hk _ => hf.at_ k v hk⟩, fun j hj => ?_, ?_⟩
    · have h := congrFun hb j
      exact absurd (h.symm.trans hj) (by simp)
    · rw [hb, h0]
      exact hs.drew
def Stps2 (w0 : World) (n : Nat) (ops : Array Oper) (Q : Exit → Act → World → Prop) (ρ : Env) (vs : List (Lt → Value)) (Hs : (Nat → Bool) → Lt → List It) (al : List Nat) : Nat → List Oper → Prop
  | _, [] => True
  | i, o :: r => Stp w0 n ops Q (clean ops ρ ++ oldOf ops ρ i) vs Hs al i o ∧ Stps2 w0 n ops Q ρ vs Hs al (i + 1) r
variable {vs : List (Lt → Value)} {Hs : (Nat → Bool) → Lt → List It} {al : List Nat} {i : Nat} {o : Oper} {r : List Oper}
theorem Stps2.nil : Stps2 w0 n ops Q ρ vs Hs al i [] := trivial
theorem Stps2.cons (h : Stp w0 n ops Q (clean ops ρ ++ oldOf ops ρ i) vs Hs al i o) (k : Stps2 w0 n ops Q ρ vs Hs al (i + 1) r) : Stps2 w0 n ops Q ρ vs Hs al i (o :: r) := ⟨h, k⟩
theorem Stps2.get : ∀ {l : List Oper} {k : Nat}, Stps2 w0 n ops Q ρ vs Hs al k l → ∀ {i : Nat} {o : Oper}, l[i]? = some o → Stp w0 n ops Q (clean ops ρ ++ oldOf ops ρ (k + i)) vs Hs al (k + i) o
  | [], k, h, i, o, hi => by simp at hi
  | x :: r, k, h, 0, o, hi => by
    simp at hi
    subst hi
    exact h.1
  | x :: r, k, h, i + 1, o, hi => by
    have := Stps2.get h.2 (i := i) (o := o) (by simpa using hi)
    rw [show k + 1 + i = k + (i + 1) by omega] at this
    exact this
theorem WC.draws2 {Hs : (Nat → Lt → Value) → List It → (Nat → Bool) → Lt → List It} (al : List Nat) (hac : acycB ops = true) (hdo : dstOk ops = true) (hcl : (dstsOf ops).all (fun d => Nat.blt d n) = true)
    (h0 : ∀ s, Hs (nth vs) H (fun _ => false) s = H) (steps : Stps2 w0 n ops Q ρ vs (Hs (nth vs) H) al 0 ops.toList) (agree : AgrAll ops vs al)
    (fin : ∀ s, End w0 n Q .normal (envOf ops (fun j => nth vs j s) (List.range ops.size) ++ clean ops ρ) (Hs (nth vs) H (fun i => Nat.blt i ops.size) s)) : WC w0 n Q (.region id ops true) ρ H := by
  refine WC.inv2 (σ := Lt) (nth vs) (Hs (nth vs) H) (fun b _ => Closed ops b) (fun _ => (0, 0)) (fun b s h => h) hac hdo hcl (h0 _) (fun i o _ h => by cases h) ?_ (fun s _ => fin s)
  intro i o ho b s hb hd hS a w hf hs K hK
  have hst := Stps2.get steps (i := i) (o := o) (by simpa using ho)
  rw [Nat.zero_add] at hst
  refine hst b s hS hb hd a w hf hs K (fun v w' hT => hK v w' ?_)
  obtain ⟨s', hs', hv, hst⟩ := hT
  refine ⟨s', hv, hS.up ho hd, fun j hj => ?_, hst⟩
  rcases hs' with rfl | ⟨hi, x, rfl⟩
  · rfl
  · exact AgrL.get hS hb vs 0 (agree.get hi) j (by rw [Nat.zero_add]; exact hj) s x
end
/-- Behind a drawing region that writes some slots anew: its slots, and the others as they were. -/
theorem End.shapeD {w0 : World} {n : Nat} {Q : Exit → Act → World → Prop} {H H' : List It} {ops : Array Oper} {val : Nat → Value} {l : List Nat} {ρ new : Env} {e : Exit} (hc : ρ.all (fun e => !((dstsOf ops).contains e.1) || new.any (fun q => Nat.beq q.1 e.1)) = true) (hn : Env.sub new (envOf ops val l ++ clean ops ρ)) (h2 : H = H') (k : End w0 n Q e (new ++ ρ) H') : End w0 n Q e (envOf ops val l ++ clean ops ρ) H := by
  refine End.shape (ρ' := new ++ ρ) (fun i v hi => ?_) h2 k
  rw [Env.find_app] at hi
  cases hq : Env.find new i with
  | some u =>
    rw [hq] at hi
    simp at hi
    subst hi
    exact hn i u hq
  | none =>
    rw [hq] at hi
    simp only at hi
    have hm := Env.find_mem hi
    have h3 := List.all_eq_true.1 hc _ hm
    have hnd : ¬ i ∈ dstsOf ops := fun hd => by
      rw [Bool.or_eq_true] at h3
      rcases h3 with h3 | h3
      · simp at h3; exact h3 hd
      · obtain ⟨q, hq1, hq2⟩ := List.any_eq_true.1 h3
        have := Env.find_none hq q hq1
        rw [this] at hq2; cases hq2
    rw [Env.find_app]
    cases ht : Env.find (envOf ops val l) i with
    | some u => exact absurd (envOf_keys (Env.find_mem ht)) hnd
    | none =>
      simp only
      have key : ∀ (ρ : Env), Env.find ρ i = some v → Env.find (clean ops ρ) i = some v := by
        intro ρ
        induction ρ with
        | nil => intro h; cases h
        | cons q r ih =>
          obtain ⟨k, u⟩ := q
          intro h
          unfold Env.find at h
          unfold clean
          rw [List.filter_cons]
          cases hq' : Nat.beq k i with
          | true =>
            rw [hq'] at h
            have e := Nat.eq_of_beq_eq_true hq'
            subst e
            rw [if_pos (by simpa using hnd)]
            unfold Env.find
            rw [hq']
            exact h
          | false =>
            rw [hq'] at h
            split
            · unfold Env.find
              rw [hq']
              exact ih h
            · exact ih h
      exact key ρ hi

end Go.Proofs.YtlkkiimmangplaaGreatDoor

/- Own maps from numbers to true; what holds of every world that stands so. -/
namespace Go.Proofs.YtlkkiimmangplaaGreatDoor
open Go.RowKit
set_option linter.unusedVariables false
set_option linter.unusedSimpArgs false
/-- A map of type map[int]bool that is true at just these numbers. -/
def IntSet (es : Array MapEntry) (l : List Int) : Prop := (∀ e ∈ es.toList, ∃ n, e.key = .int .i64 n ∧ e.val = .bool true) ∧ ∀ n, n ∈ l ↔ ∃ e ∈ es.toList, e.key = .int .i64 n
theorem IntSet.nil : IntSet #[] [] := ⟨by simp, by simp⟩
theorem IntSet.keys {es : Array MapEntry} {l : List Int} (h : IntSet es l) : ∀ e ∈ es.toList, MapKept.IsKey (.int .i64) e.key := fun e he => by
  obtain ⟨n, h1, _⟩ := h.1 e he
  rw [h1]; rfl
theorem IntSet.push {es : Array MapEntry} {l : List Int} {m : Int} {c : Nat} (h : IntSet es l) : IntSet (es.push { key := .int .i64 m, val := .bool true, born := c }) (l ++ [m]) := by
  refine ⟨fun e he => ?_, fun n => ?_⟩
  · rw [Array.toList_push, List.mem_append, List.mem_singleton] at he
    rcases he with he | rfl
    · exact h.1 e he
    · exact ⟨m, rfl, rfl⟩
  · rw [Array.toList_push, List.mem_append, List.mem_singleton, h.2 n]
    constructor
    · rintro (⟨e, he, hk⟩ | rfl)
      · exact ⟨e, List.mem_append_left _ he, hk⟩
      · exact ⟨_, List.mem_append_right _ (List.mem_singleton.2 rfl), rfl⟩
    · rintro ⟨e, he, hk⟩
      rw [List.mem_append, List.mem_singleton] at he
      rcases he with he | rfl
      · exact .inl ⟨e, he, hk⟩
      · cases hk; exact .inr rfl
theorem IntSet.modify {es : Array MapEntry} {l : List Int} {m : Int} {j : Nat} {e0 : MapEntry} (h : IntSet es l) (h0 : es.toList[j]? = some e0) (hk : e0.key = .int .i64 m) : IntSet (es.modify j (fun e => { e with key := .int .i64 m, val := .bool true })) (l ++ [m]) := by
  have hj : es[j]? = some e0 := by simpa using h0
  have hkeys := MapKept.modify_keys (es := es) j (fun e => { e with key := .int .i64 m, val := .bool true }) (fun e he => by rw [hj] at he; cases he; exact hk.symm)
  have hm : m ∈ l := (h.2 m).2 ⟨e0, List.mem_of_getElem? h0, hk⟩
  have hmem : ∀ n : Int, (∃ e ∈ (es.modify j (fun e => { e with key := .int .i64 m, val := .bool true })).toList, e.key = .int .i64 n) ↔ ∃ e ∈ es.toList, e.key = .int .i64 n := fun n => by
    have h1 : ∀ (L : List MapEntry), (∃ e ∈ L, e.key = .int .i64 n) ↔ Value.int .i64 n ∈ L.map (·.key) := fun L => by simp [List.mem_map]
    rw [h1, h1, hkeys]
  refine ⟨fun e he => ?_, fun n => ?_⟩
  · obtain ⟨i, hi⟩ := List.mem_iff_getElem?.1 he
    rw [Array.getElem?_toList, Array.getElem?_modify] at hi
    by_cases hij : j = i
    · subst hij
      rw [if_pos rfl, hj] at hi
      cases hi
      exact ⟨m, rfl, rfl⟩
    · rw [if_neg hij] at hi
      exact h.1 e (List.mem_of_getElem? (by rw [Array.getElem?_toList]; exact hi))
  · rw [List.mem_append, List.mem_singleton, hmem n, ← h.2 n]
    constructor
    · rintro (h1 | rfl)
      · exact h1
      · exact hm
    · exact .inl
section
variable {w0 : World} {n : Nat} {ops : Array Oper} {Q : Exit → Act → World → Prop} {o : Oper} {rest : List Oper} {ρ : Env} {H : List It}
variable {d : Nat} {ty t t' : TypeId} {pos : String} {af : Array Edge} {g : Option (Nat × Bool)} {x y z : Operand} {v u : Value}
end
theorem ints_get {l : List Int} {k : Nat} {x : Int} (h : l[k]? = some x) : (ints l)[k]? = some (.int .i64 x) := by simp [ints, h]
end Go.Proofs.YtlkkiimmangplaaGreatDoor

/- Slices made with a length; pointers against nil; the memory's order; rows of grants. -/
namespace Go.Proofs.YtlkkiimmangplaaGreatDoor
open Go.RowKit
set_option linter.unusedVariables false
set_option linter.unusedSimpArgs false
section
variable {w0 : World} {n : Nat} {ops : Array Oper} {Q : Exit → Act → World → Prop} {o : Oper} {rest : List Oper} {ρ : Env} {H : List It}
variable {d : Nat} {ty t t' : TypeId} {pos : String} {af : Array Edge} {g : Option (Nat × Bool)} {x y z : Operand} {v u : Value}
theorem P.neNil {e : TypeId} {p : Option Addr} (hu : Tryz.prog.underlying t = some (.pointer e)) (hx : ev ρ x = some (.pointer p)) (hy : ev ρ y = some (.pointer none)) : Pure w0 n ρ H ⟨some d, .binOp .neq t x y t', ty, pos, af, g⟩ (.bool p.isSome) :=
  fun a w hf _ => by
    have h := run_equal_pointer_nil (P := Tryz.prog) w t p (by simp [Program.pointee, hu])
    simp [execOp, hf.eval hx, hf.eval hy, eqGuard, binOp, Sem.run_bind, h]
/-- make([]T, m). -/
theorem WL.make {e size bytes m : Nat} {zv : Value} (hel : ElT t e size bytes zv) (hon : onB ops ρ ⟨some d, .makeSlice t x y, ty, pos, af, g⟩ = some true) (hd : Nat.blt d n = true) (hx : ev ρ x = some (.int .i64 (m : Int))) (hy : ev ρ y = some (.int .i64 (m : Int))) (hb : bytes * m ≤ 281474976710656) (h63 : m ≤ 9223372036854775807)
    (k : ∀ b, WL w0 n ops Q rest ((d, .slice (some ⟨b, 0, none⟩) m m) :: ρ) (.blk b e (madeCells zv.cells (m * size)) :: H)) : WL w0 n ops Q (⟨some d, .makeSlice t x y, ty, pos, af, g⟩ :: rest) ρ H := by
  obtain ⟨i, hi, hz, hs, hby⟩ := hel.hi
  refine WL.valx (α := Nat) (S := fun _ => True) (v := fun b => .slice (some ⟨b, 0, none⟩) m m) (H' := fun b => .blk b e (madeCells zv.cells (m * size)) :: H) hon rfl hd (fun a w hf hst => ?_) (fun b _ => k b)
  have hb2 : (bytes : Int) * (m : Int) ≤ 281474976710656 := by
    have h : ((bytes * m : Nat) : Int) ≤ 281474976710656 := by omega
    rwa [Int.natCast_mul] at h
  have h := run_make (P := Tryz.prog) w t e i zv hel.ht hi hz .i64 .i64 (m : Int) (m : Int) (by omega) (Int.le_refl _) (by rw [hby]; exact hb2) (by omega)
  rw [hs, Int.toNat_natCast] at h
  exact ⟨w.heap.size, _, trivial, by simp [execOp, hf.eval hx, hf.eval hy, h], hst.alloc e _⟩
end
theorem St.cell0 {w0 w : World} {H : List It} {a : Addr} {v : Value} (h : St w0 H w) (h0 : w0.cell? a = some v) : w.cell? a = some v := (h.below.cell (World.block_lt_of_cell? _ _ h0)).trans h0
theorem St.rot3 {w0 w : World} {a b c : It} {H : List It} (h : St w0 (a :: b :: c :: H) w) : St w0 (b :: c :: a :: H) w := by
  have hg : ∀ (i : Nat) (z : It), (b :: c :: a :: H)[i]? = some z → (a :: b :: c :: H)[if i < 2 then i + 1 else if i = 2 then 0 else i]? = some z := by
    intro i z hz
    match i with
    | 0 => simpa using hz
    | 1 => simpa using hz
    | 2 => simpa using hz
    | i + 3 => rw [if_neg (by omega), if_neg (by omega)]; simpa using hz
  refine ⟨h.below, fun i z hz => h.ok _ z (hg i z hz), fun i j z u hz hu hij => h.apart _ _ z u (hg i z hz) (hg j u hu) (by split <;> split <;> (try split) <;> (try split) <;> omega)⟩
theorem St.tor3 {w0 w : World} {a b c : It} {H : List It} (h : St w0 (b :: c :: a :: H) w) : St w0 (a :: b :: c :: H) w := h.rot3.rot3
theorem WL.conv {w0 : World} {n : Nat} {ops : Array Oper} {Q : Exit → Act → World → Prop} {l : List Oper} {ρ : Env} {H H' : List It} (h : ∀ w, St w0 H w → St w0 H' w) (k : WL w0 n ops Q l ρ H') : WL w0 n ops Q l ρ H := fun a w hf hs => k a w hf (h w hs)
theorem WC.conv {w0 : World} {n : Nat} {Q : Exit → Act → World → Prop} {cd : Code} {ρ : Env} {H H' : List It} (h : ∀ w, St w0 H w → St w0 H' w) (k : WC w0 n Q cd ρ H') : WC w0 n Q cd ρ H := fun a w hf hs => k a w hf (h w hs)
/-- Grants in a row with room for m. -/
def gcells (l : List Gr) : List Value := l.flatMap Gr.cells
def zgr : List Value := [.string ⟨#[]⟩, .bool false, .int .i64 0]
def zrow : Nat → List Value
  | 0 => []
  | m + 1 => zgr ++ zrow m
def growC (l : List Gr) (m : Nat) : Array Value := (gcells l ++ zrow (m - l.length)).toArray
theorem gcells_len (l : List Gr) : (gcells l).length = 3 * l.length := by
  induction l with
  | nil => rfl
  | cons g r ih => simp only [gcells, List.flatMap_cons, List.length_append, List.length_cons] at ih ⊢; rw [ih]; simp [Gr.cells]; omega
theorem zrow_len : ∀ m, (zrow m).length = 3 * m
  | 0 => rfl
  | m + 1 => by simp only [zrow, List.length_append, zrow_len m]; simp [zgr]; omega
theorem growC_size (l : List Gr) (m : Nat) (h : l.length ≤ m) : (growC l m).size = 3 * m := by simp [growC, gcells_len, zrow_len]; omega
theorem set_mid {L R : List Value} {z v : Value} {k : Nat} (h : L.length = k) : (L ++ z :: R).toArray.setIfInBounds k v = (L ++ v :: R).toArray := by
  subst h
  simp [List.set_append_right]
theorem growC_set {l : List Gr} {m k : Nat} (a : ByteArray) (b : Bool) (c : Int) (h : l.length = k) (hm : k < m) :
    (((growC l m).setIfInBounds (3 * k) (.string a)).setIfInBounds (3 * k + 1) (.bool b)).setIfInBounds (3 * k + 2) (.int .i64 c) = growC (l ++ [⟨a, b, c⟩]) m := by
  obtain ⟨r, hr⟩ : ∃ r, m - k = r + 1 := ⟨m - k - 1, by omega⟩
  have hl := gcells_len l
  unfold growC
  rw [h, hr, show m - (l ++ [(⟨a, b, c⟩ : Gr)]).length = r by simp; omega]
  show (((gcells l ++ (.string ⟨#[]⟩ :: .bool false :: .int .i64 0 :: zrow r)).toArray.setIfInBounds (3 * k) (.string a)).setIfInBounds (3 * k + 1) (.bool b)).setIfInBounds (3 * k + 2) (.int .i64 c) = _
  rw [set_mid (by omega)]
  rw [show gcells l ++ Value.string a :: .bool false :: .int .i64 0 :: zrow r = (gcells l ++ [.string a]) ++ .bool false :: .int .i64 0 :: zrow r by simp, set_mid (by simp; omega)]
  rw [show (gcells l ++ [Value.string a]) ++ .bool b :: .int .i64 0 :: zrow r = (gcells l ++ [.string a, .bool b]) ++ .int .i64 0 :: zrow r by simp, set_mid (by simp; omega)]
  simp [gcells, Gr.cells]
theorem gcells_get : ∀ (l : List Gr) (k : Nat) (x : Gr), l[k]? = some x → ∀ (i : Nat) (u : Value), x.cells[i]? = some u → (gcells l)[3 * k + i]? = some u
  | [], k, x, h => by cases h
  | g :: r, 0, x, h => fun i u hu => by
    simp at h; subst h
    have hi : i < g.cells.length := (List.getElem?_eq_some_iff.1 hu).1
    show (g.cells ++ gcells r)[3 * 0 + i]? = _
    rw [Nat.mul_zero, Nat.zero_add, List.getElem?_append_left (by simpa using hi)]
    simpa using hu
  | g :: r, k + 1, x, h => fun i u hu => by
    show (g.cells ++ gcells r)[3 * (k + 1) + i]? = _
    rw [List.getElem?_append_right (by simp [Gr.cells]; omega)]
    have := gcells_get r k x (by simpa using h) i u hu
    simpa [Gr.cells, show 3 * (k + 1) + i - 3 = 3 * k + i by omega] using this
theorem slG_blk {w0 w : World} {H : List It} {j b : Nat} {l : List Gr} (hs : St w0 H w) (hj : H[j]? = some (.blk b 51 (gcells l).toArray)) (hl : l.length ≤ 46912496118442) : Sl Gr.cells 3 w (some ⟨b, 0, none⟩) l :=
  ⟨by omega, fun _ => ⟨b, 0, rfl, fun k x hx i u hu => by
    rw [cell_blk (hs.ok j _ hj).2]
    have := gcells_get l k x hx i u hu
    simpa [Nat.mul_comm] using this⟩⟩
theorem growC_full (l : List Gr) : growC l l.length = (gcells l).toArray := by simp [growC, zrow]
theorem el32 : ElT 32 51 3 32 (.agg #[.string ⟨#[]⟩, .bool false, .int .i64 0]) := ElT.of Tryz.underlying32 (by kernel_rfl) rfl (by decide)
theorem made_zrow : ∀ m, madeCells #[.string ⟨#[]⟩, .bool false, .int .i64 0] (m * 3) = (zrow m).toArray := by
  intro m
  apply Array.ext'
  rw [show (zrow m).toArray.toList = zrow m from rfl]
  induction m with
  | zero => simp [madeCells, zrow]
  | succ m ih =>
    rw [show (m + 1) * 3 = 3 + m * 3 by omega]
    unfold madeCells at ih ⊢
    simp only [Array.toList_map, Array.toList_range] at ih ⊢
    rw [List.range_add, List.map_append, List.map_map, zrow, ← ih]
    congr 1
    apply List.map_congr_left
    intro i _
    show #[_, _, _][(3 + i) % 3]! = #[_, _, _][i % 3]!
    rw [Nat.add_mod_left]
end Go.Proofs.YtlkkiimmangplaaGreatDoor

/- Own maps from keys to true, for any type of keys. -/
namespace Go.Proofs.YtlkkiimmangplaaGreatDoor
open Go.RowKit
set_option linter.unusedVariables false
set_option linter.unusedSimpArgs false
/-- What a map needs of a type of keys. -/
structure KeyT (kt : TypeId) {α : Type} (enc : α → Value) : Prop where
  check : ∀ (em : Bool) (a : α) (w : World), (Instr.checkKey em 10000 kt (enc a)).run Tryz.prog w = .ok () w
  find : ∀ (es : List MapEntry) (a : α), (∀ e ∈ es, ∃ b, e.key = enc b) → ((∀ w : World, (Instr.findKey kt (enc a) es).run Tryz.prog w = .ok none w) ∧ ∀ e ∈ es, e.key ≠ enc a) ∨
    ∃ j e, (∀ w : World, (Instr.findKey kt (enc a) es).run Tryz.prog w = .ok (some (j, e.val)) w) ∧ es[j]? = some e ∧ e.key = enc a
  stays : ∀ (a : α) (w : World), (Instr.keyThatStays (enc a) (enc a)).run Tryz.prog w = .ok (enc a) w
  inj : ∀ a b : α, enc a = enc b → a = b
def KeySet {α : Type} (enc : α → Value) (es : Array MapEntry) (l : List α) : Prop := (∀ e ∈ es.toList, ∃ a, e.key = enc a ∧ e.val = .bool true) ∧ ∀ a, a ∈ l ↔ ∃ e ∈ es.toList, e.key = enc a
theorem KeySet.nil {α : Type} (enc : α → Value) : KeySet enc #[] [] := ⟨by simp, by simp⟩
theorem KeySet.push {kt : TypeId} {α : Type} {enc : α → Value} (K : KeyT kt enc) {es : Array MapEntry} {l : List α} {m : α} {c : Nat} (h : KeySet enc es l) : KeySet enc (es.push { key := enc m, val := .bool true, born := c }) (l ++ [m]) := by
  refine ⟨fun e he => ?_, fun n => ?_⟩
  · rw [Array.toList_push, List.mem_append, List.mem_singleton] at he
    rcases he with he | rfl
    · exact h.1 e he
    · exact ⟨m, rfl, rfl⟩
  · rw [Array.toList_push, List.mem_append, List.mem_singleton, h.2 n]
    constructor
    · rintro (⟨e, he, hk⟩ | rfl)
      · exact ⟨e, List.mem_append_left _ he, hk⟩
      · exact ⟨_, List.mem_append_right _ (List.mem_singleton.2 rfl), rfl⟩
    · rintro ⟨e, he, hk⟩
      rw [List.mem_append, List.mem_singleton] at he
      rcases he with he | rfl
      · exact .inl ⟨e, he, hk⟩
      · exact .inr (K.inj _ _ hk).symm
theorem KeySet.modify {kt : TypeId} {α : Type} {enc : α → Value} (K : KeyT kt enc) {es : Array MapEntry} {l : List α} {m : α} {j : Nat} {e0 : MapEntry} (h : KeySet enc es l) (h0 : es.toList[j]? = some e0) (hk : e0.key = enc m) : KeySet enc (es.modify j (fun e => { e with key := enc m, val := .bool true })) (l ++ [m]) := by
  have hj : es[j]? = some e0 := by simpa using h0
  have hkeys := MapKept.modify_keys (es := es) j (fun e => { e with key := enc m, val := .bool true }) (fun e he => by rw [hj] at he; cases he; exact hk.symm)
  have hm : m ∈ l := (h.2 m).2 ⟨e0, List.mem_of_getElem? h0, hk⟩
  have hmem : ∀ n : α, (∃ e ∈ (es.modify j (fun e => { e with key := enc m, val := .bool true })).toList, e.key = enc n) ↔ ∃ e ∈ es.toList, e.key = enc n := fun n => by
    have h1 : ∀ (L : List MapEntry), (∃ e ∈ L, e.key = enc n) ↔ enc n ∈ L.map (·.key) := fun L => by simp [List.mem_map]
    rw [h1, h1, hkeys]
  refine ⟨fun e he => ?_, fun n => ?_⟩
  · obtain ⟨i, hi⟩ := List.mem_iff_getElem?.1 he
    rw [Array.getElem?_toList, Array.getElem?_modify] at hi
    by_cases hij : j = i
    · subst hij
      rw [if_pos rfl, hj] at hi
      cases hi
      exact ⟨m, rfl, rfl⟩
    · rw [if_neg hij] at hi
      exact h.1 e (List.mem_of_getElem? (by rw [Array.getElem?_toList]; exact hi))
  · rw [List.mem_append, List.mem_singleton, hmem n, ← h.2 n]
    constructor
    · rintro (h1 | rfl)
      · exact h1
      · exact hm
    · exact .inl
theorem KeySet.keys {α : Type} {enc : α → Value} {es : Array MapEntry} {l : List α} (h : KeySet enc es l) : ∀ e ∈ es.toList, ∃ b, e.key = enc b := fun e he => by obtain ⟨a, h1, _⟩ := h.1 e he; exact ⟨a, h1⟩
section
variable {w0 : World} {n : Nat} {ops : Array Oper} {Q : Exit → Act → World → Prop} {o : Oper} {rest : List Oper} {ρ : Env} {H : List It}
variable {d : Nat} {ty t t' : TypeId} {pos : String} {af : Array Edge} {g : Option (Nat × Bool)} {x y z : Operand} {v u : Value}
/-- m[k] = true. -/
theorem WL.putKey (j : Nat) {kt et : TypeId} {b c : Nat} {es : Array MapEntry} {α : Type} {enc : α → Value} {l : List α} (m : α) (K : KeyT kt enc) (hm : Tryz.prog.underlying t = some (.map kt et)) (hon : onB ops ρ ⟨none, .mapUpdate t x y z, ty, pos, af, g⟩ = some true) (hx : ev ρ x = some (.map (some b))) (hy : ev ρ y = some (enc m)) (hz : ev ρ z = some (.bool true))
    (hj : H[j]? = some (.map b es c)) (h : KeySet enc es l) (k : ∀ es' c', KeySet enc es' (l ++ [m]) → WL w0 n ops Q rest ρ (H.set j (.map b es' c'))) : WL w0 n ops Q (⟨none, .mapUpdate t x y z, ty, pos, af, g⟩ :: rest) ρ H := by
  rcases K.find es.toList m h.keys with ⟨h1, _⟩ | ⟨i, e, h1, h2, h3⟩
  · refine WL.skip_ hon rfl (fun a w hfit hs => ?_) (k _ (c + 1) (h.push K (c := c)))
    have hb := (hs.ok j _ hj).2
    exact ⟨_, by simp [execOp, hfit.eval hx, hfit.eval hy, hfit.eval hz, Instr.mapUpdate, run_underlying hm, MapKept.run_getObj_map hb, K.check, h1, MapKept.run_setObj_map _ hb, Result.andThen], hs.mapSet j hj⟩
  · have hi : es[i]? = some e := by simpa using h2
    refine WL.skip_ hon rfl (fun a w hfit hs => ?_) (k _ c (h.modify K h2 h3))
    have hb := (hs.ok j _ hj).2
    exact ⟨_, by simp [execOp, hfit.eval hx, hfit.eval hy, hfit.eval hz, Instr.mapUpdate, run_underlying hm, MapKept.run_getObj_map hb, K.check, h1, hi, h3, K.stays, MapKept.run_setObj_map _ hb, Result.andThen], hs.mapSet j hj⟩
def inL {α : Type} [DecidableEq α] (l : List α) (m : α) : Bool := l.any fun p => decide (p = m)
theorem inL_iff {α : Type} [DecidableEq α] {l : List α} {m : α} : inL l m = true ↔ m ∈ l := by simp [inL]
/-- m[k]. -/
theorem P.hasKey (j : Nat) {kt et : TypeId} {b c : Nat} {es : Array MapEntry} {α : Type} [DecidableEq α] {enc : α → Value} {l : List α} (m : α) (K : KeyT kt enc) (hm : Tryz.prog.underlying t = some (.map kt et)) (hz : ∀ w : World, (zeroValue et).run Tryz.prog w = .ok (.bool false) w) (hx : ev ρ x = some (.map (some b))) (hy : ev ρ y = some (enc m)) (hj : H[j]? = some (.map b es c)) (h : KeySet enc es l) :
    Pure w0 n ρ H ⟨some d, .lookup t x y false, ty, pos, af, g⟩ (.bool (inL l m)) := fun a w hfit hs => by
  have hb := (hs.ok j _ hj).2
  rcases K.find es.toList m h.keys with ⟨h1, h2⟩ | ⟨i, e, h1, h2, h3⟩
  · have hno : ¬ m ∈ l := fun hm => by obtain ⟨e, he, hk⟩ := (h.2 m).1 hm; exact h2 e he hk
    have hno : inL l m = false := by cases hq : inL l m with
      | false => rfl
      | true => exact absurd (inL_iff.1 hq) hno
    simp [execOp, hfit.eval hx, hfit.eval hy, Instr.lookup, run_underlying hm, MapKept.run_getObj_map hb, K.check, h1, Result.andThen, hz w, hno]
  · have he := List.mem_of_getElem? h2
    obtain ⟨_, _, hv⟩ := h.1 e he
    have hyes : inL l m = true := inL_iff.2 ((h.2 m).2 ⟨e, he, h3⟩)
    simp [execOp, hfit.eval hx, hfit.eval hy, Instr.lookup, run_underlying hm, MapKept.run_getObj_map hb, K.check, h1, Result.andThen, hv, hyes]
end
/-- Whom a grant is for. -/
def wkey (p : ByteArray × Bool) : Value := .agg #[.string p.1, .bool p.2]
set_option maxRecDepth 100000 in
theorem eq281 (a b : ByteArray × Bool) (w : World) : (Op.equal 281 (wkey a) (wkey b)).run Tryz.prog w = .ok (decide (a = b)) w := by
  have key : (Op.equal 281 (wkey a) (wkey b)).run Tryz.prog w = .ok ((a.1.toList == b.1.toList) && ((a.2 == b.2) && true)) w := by
    refine equal_struct Tryz.underlying281 (by kernel_rfl) ?_
    refine eqf_cons (by decide) (part_cell Tryz.isAgg9 rfl) (part_cell Tryz.isAgg9 rfl) (run_equalIn_string w _ 9  _ _ Tryz.underlying9) ?_
    refine eqf_cons (by decide) (part_cell Tryz.isAgg4 rfl) (part_cell Tryz.isAgg4 rfl) (run_equalIn_bool' w _ 4  _ _ Tryz.underlying4) ?_
    exact eqf_nil
  rw [key]
  congr 1
  obtain ⟨a0, a1⟩ := a
  obtain ⟨b0, b1⟩ := b
  rw [Bool.eq_iff_iff]
  simp only [Prod.mk.injEq, Bool.and_eq_true, beq_iff_eq, decide_eq_true_eq, toList_inj, and_true]
theorem asking {kt : TypeId} {α : Type} [DecidableEq α] {enc : α → Value} (heq : ∀ a b (w : World), (Op.equal kt (enc a) (enc b)).run Tryz.prog w = .ok (decide (a = b)) w) (inj : ∀ a b : α, enc a = enc b → a = b) (a : α) : ∀ (es : List MapEntry) (i : Nat), (∀ e ∈ es, ∃ b, e.key = enc b) →
    ((∀ w : World, (Instr.findAsking kt (enc a) es i).run Tryz.prog w = .ok none w) ∧ ∀ e ∈ es, e.key ≠ enc a) ∨ ∃ j e, (∀ w : World, (Instr.findAsking kt (enc a) es i).run Tryz.prog w = .ok (some (i + j, e.val)) w) ∧ es[j]? = some e ∧ e.key = enc a
  | [], i, _ => .inl ⟨fun w => rfl, by simp⟩
  | e :: es, i, h => by
    obtain ⟨b, hb⟩ := h e (.head _)
    by_cases hab : a = b
    · subst hab
      refine .inr ⟨0, e, fun w => ?_, rfl, hb⟩
      simp [Instr.findAsking, hb, heq, Result.andThen]
    · have hne : e.key ≠ enc a := fun q => hab (inj _ _ (q.symm.trans hb))
      rcases asking heq inj a es (i + 1) (fun x hx => h x (.tail _ hx)) with ⟨h1, h2⟩ | ⟨j, e', h1, h2, h3⟩
      · refine .inl ⟨fun w => ?_, fun x hx => ?_⟩
        · simp [Instr.findAsking, hb, heq, hab, Result.andThen, h1]
        · cases hx with
          | head => exact hne
          | tail _ hx => exact h2 x hx
      · refine .inr ⟨j + 1, e', fun w => ?_, by simpa using h2, h3⟩
        simp [Instr.findAsking, hb, heq, hab, Result.andThen, h1]
        omega
theorem wkey_inj (a b : ByteArray × Bool) (h : wkey a = wkey b) : a = b := by
  obtain ⟨a0, a1⟩ := a
  obtain ⟨b0, b1⟩ := b
  simp [wkey] at h
  rw [h.1, h.2]
theorem key281 : KeyT 281 wkey where
  check em a w := by
    have h9 : (Instr.checkKey em 9999 9 (.string a.1)).run Tryz.prog w = .ok () w := MapKept.run_checkKey (d := .string) (k := .string a.1) Tryz.underlying9 trivial em 9998
    have h4 : (Instr.checkKey em 9999 4 (.bool a.2)).run Tryz.prog w = .ok () w := MapKept.run_checkKey (d := .bool) (k := .bool a.2) Tryz.underlying4 trivial em 9998
    have p0 : (part 9 #[.string a.1, .bool a.2] 0).run Tryz.prog w = .ok (.string a.1) w := part_cell Tryz.isAgg9 rfl
    have p1 : (part 4 #[.string a.1, .bool a.2] 1).run Tryz.prog w = .ok (.bool a.2) w := part_cell Tryz.isAgg4 rfl
    have h := run_underlying Tryz.underlying281 w
    show (Instr.checkKey em (9999 + 1) 281 (wkey a)).run Tryz.prog w = .ok () w
    unfold Instr.checkKey
    simp only [Sem.run_bind, h, Result.andThen, wkey]
    simp [p0, p1, h9, h4, Result.andThen]
  find es a h := by
    have hu := fun w => run_underlying Tryz.underlying281 w
    cases es with
    | nil => exact .inl ⟨fun w => by simp [Instr.findKey, hu, Instr.findNow, Result.andThen], by simp⟩
    | cons e es =>
      obtain ⟨b, hb⟩ := h e (.head _)
      have hrun : ∀ w : World, (Instr.findKey 281 (wkey a) (e :: es)).run Tryz.prog w = (Instr.findAsking 281 (wkey a) (e :: es) 0).run Tryz.prog w := fun w => by simp [Instr.findKey, hu, Instr.findNow, Instr.sameNow, Result.andThen]
      rcases asking eq281 wkey_inj a (e :: es) 0 h with ⟨h1, h2⟩ | ⟨j, e', h1, h2, h3⟩
      · exact .inl ⟨fun w => (hrun w).trans (h1 w), h2⟩
      · exact .inr ⟨j, e', fun w => (hrun w).trans (by rw [h1 w, Nat.zero_add]), h2, h3⟩
  stays a w := by
    simp [Instr.keyThatStays, Instr.sameBits, wkey, MapKept.bytes_beq]
  inj := wkey_inj
end Go.Proofs.YtlkkiimmangplaaGreatDoor

/- A range over an own map. -/
namespace Go.Proofs.YtlkkiimmangplaaGreatDoor
open Go.RowKit
open Go.ChangeMaps (setBlock)
set_option linter.unusedVariables false
set_option linter.unusedSimpArgs false
theorem St.obj {w0 w : World} {H : List It} (h : St w0 H w) (o : Obj) : St w0 (.obj w.heap.size o :: H) (w.alloc o) := by
  have hn : St w [.obj w.heap.size o] (w.alloc o) := ⟨(Below.refl _ _).alloc (Nat.le_refl _) _, fun i x hi => by
    cases i with
    | zero => simp at hi; subst hi; exact ⟨Nat.le_refl _, heap_alloc_new w _⟩
    | succ i => simp at hi, fun i j x y hx hy hij => by cases i <;> cases j <;> simp_all⟩
  exact h.call hn
theorem St.objSet {w0 w : World} {H : List It} (h : St w0 H w) (j : Nat) {r : Nat} {o o' : Obj} (hj : H[j]? = some (.obj r o)) : St w0 (H.set j (.obj r o')) { w with heap := w.heap.setIfInBounds r o' } := by
  have hb := h.ok j _ hj
  have hlt := lt_of_heap hb.2
  refine h.swap j hj (fun k hk => .inl hk) ⟨hb.1, by simp [hlt]⟩ ?_ (fun k _ hk => ?_)
  · refine h.below.trans ⟨rfl, rfl, rfl, by simp, fun k hk => ?_⟩
    have : r ≠ k := by have := hb.1; omega
    simp [Array.getElem?_setIfInBounds_ne this]
  · have : r ≠ k := fun e => hk (by rw [e]; rfl)
    simp [Array.getElem?_setIfInBounds_ne this]
section
variable {w0 : World} {n : Nat} {ops : Array Oper} {Q : Exit → Act → World → Prop} {o : Oper} {rest : List Oper} {ρ : Env} {H : List It}
variable {d : Nat} {ty t t' kt et : TypeId} {pos : String} {af : Array Edge} {g : Option (Nat × Bool)} {x y z : Operand} {v u : Value}
/-- range m: the iterator. -/
theorem WL.range (j : Nat) {b c : Nat} {es : Array MapEntry} (hm : Tryz.prog.underlying t = some (.map kt et)) (hon : onB ops ρ ⟨some d, .range t x, ty, pos, af, g⟩ = some true) (hd : Nat.blt d n = true) (hx : ev ρ x = some (.map (some b))) (hj : H[j]? = some (.map b es c))
    (k : ∀ r, WL w0 n ops Q rest ((d, .pointer (some ⟨r, 0, none⟩)) :: ρ) (.obj r (.mapIter (some b) c #[] c) :: H)) : WL w0 n ops Q (⟨some d, .range t x, ty, pos, af, g⟩ :: rest) ρ H :=
  WL.valx (S := fun _ => True) (v := fun r => .pointer (some ⟨r, 0, none⟩)) (H' := fun r => .obj r (.mapIter (some b) c #[] c) :: H) hon rfl hd (fun a w hf hs => by
    have hb := (hs.ok j _ hj).2
    exact ⟨w.heap.size, _, trivial, by simp [execOp, hf.eval hx, Instr.range, run_underlying hm, MapKept.run_getObj_map hb, Result.andThen], hs.obj _⟩) (fun r _ => k r)
/-- One round more, or none. -/
theorem WL.next (j jm : Nat) {r b c : Nat} {seen : Array Nat} {es : Array MapEntry} (hon : onB ops ρ ⟨some d, .next x false, ty, pos, af, g⟩ = some true) (hd : Nat.blt d n = true) (hx : ev ρ x = some (.pointer (some ⟨r, 0, none⟩))) (hj : H[j]? = some (.obj r (.mapIter (some b) c seen c))) (hm : H[jm]? = some (.map b es c)) (hold : ∀ e ∈ es.toList, e.born < c)
    (k0 : (∀ e ∈ es.toList, e.born ∈ seen.toList) → WL w0 n ops Q rest ((d, .tuple #[.bool false]) :: ρ) H)
    (k1 : ∀ e ∈ es.toList, ¬ e.born ∈ seen.toList → WL w0 n ops Q rest ((d, .tuple #[.bool true, e.key, e.val]) :: ρ) (H.set j (.obj r (.mapIter (some b) c (seen.push e.born) c)))) : WL w0 n ops Q (⟨some d, .next x false, ty, pos, af, g⟩ :: rest) ρ H := by
  refine WL.valx (α := Option MapEntry) (S := fun q => match q with | none => ∀ e ∈ es.toList, e.born ∈ seen.toList | some e => e ∈ es.toList ∧ ¬ e.born ∈ seen.toList) (v := fun q => match q with | none => .tuple #[.bool false] | some e => .tuple #[.bool true, e.key, e.val])
    (H' := fun q => match q with | none => H | some e => H.set j (.obj r (.mapIter (some b) c (seen.push e.born) c))) hon rfl hd (fun a w hf hs => ?_) (fun q hq => ?_)
  · have hr := (hs.ok j _ hj).2
    have hb := (hs.ok jm _ hm).2
    rcases run_next_at (P := Tryz.prog) w ty r b c c seen es c hr hb hold (Nat.le_refl _) with ⟨h0, hrun⟩ | ⟨e, he, w1, hw, hrun⟩
    · refine ⟨none, w, fun e he => ?_, by simp [execOp, hf.eval hx, hrun], hs⟩
      have hno : ¬ e ∈ (leftOf es seen).toList := by rw [Array.eq_empty_of_size_eq_zero h0]; simp
      unfold leftOf at hno
      simp at hno
      simpa using hno (by simpa using he)
    · have he2 : e ∈ es.toList ∧ ¬ e.born ∈ seen.toList := by
        unfold leftOf at he
        simpa using he
      have hs1 : St w0 H w1 := by
        rcases hw with rfl | rfl
        · exact hs
        · exact hs.drew
      exact ⟨some e, setBlock w1 r (.mapIter (some b) c (seen.push e.born) c), he2, by simp [execOp, hf.eval hx, hrun], hs1.objSet j hj⟩
  · cases q with
    | none => exact k0 hq
    | some e => exact k1 e hq.1 hq.2
/-- The round's key and value. -/
theorem P.entry (j jm : Nat) {r b c : Nat} {seen : Array Nat} {es : Array MapEntry} {e : MapEntry} (hx : ev ρ x = some (.pointer (some ⟨r, 0, none⟩))) (hj : H[j]? = some (.obj r (.mapIter (some b) c (seen.push e.born) c))) (hm : H[jm]? = some (.map b es c)) (he : e ∈ es.toList) (hn : (es.toList.map (·.born)).Nodup) :
    Pure w0 n ρ H ⟨some d, .entry x, ty, pos, af, g⟩ (.tuple #[e.key, e.val]) := fun a w hf hs => by
  have h := run_entry_at (P := Tryz.prog) w r b c seen es c e (hs.ok j _ hj).2 (hs.ok jm _ hm).2 he hn
  simp [execOp, hf.eval hx, h]
end
end Go.Proofs.YtlkkiimmangplaaGreatDoor

/- Division; decimal numerals. -/
namespace Go.Proofs.YtlkkiimmangplaaGreatDoor
open Go.RowKit
set_option linter.unusedVariables false
set_option linter.unusedSimpArgs false
section
variable {w0 : World} {n : Nat} {ops : Array Oper} {Q : Exit → Act → World → Prop} {o : Oper} {rest : List Oper} {ρ : Env} {H : List It}
variable {d : Nat} {ty t t' : TypeId} {pos : String} {af : Array Edge} {g : Option (Nat × Bool)} {x y z : Operand} {v u : Value}
theorem P.quo {p q : Int} (hx : ev ρ x = some (.int .i64 p)) (hy : ev ρ y = some (.int .i64 q)) (hp : 0 ≤ p) (hp' : p ≤ 9223372036854775807) (hq : 0 < q) : Pure w0 n ρ H ⟨some d, .binOp .quo t x y t', ty, pos, af, g⟩ (.int .i64 (p / q)) := fun a w hf _ => by
  have h1 : ¬ q = 0 := by omega
  have h2 : p.tdiv q = p / q := Int.tdiv_eq_ediv_of_nonneg hp
  have h3 : p / q ≤ p := Int.ediv_le_self q hp
  have h4 : 0 ≤ p / q := Int.ediv_nonneg hp (by omega)
  have h5 : IntKind.i64.wrap (p / q) = p / q := wrap_in (by omega)
  simp [execOp, hf.eval hx, hf.eval hy, eqGuard, binOp, Op.intDiv, h1, h2, h5]
theorem P.rem {p q : Int} (hx : ev ρ x = some (.int .i64 p)) (hy : ev ρ y = some (.int .i64 q)) (hp : 0 ≤ p) (hq : 0 < q) : Pure w0 n ρ H ⟨some d, .binOp .rem t x y t', ty, pos, af, g⟩ (.int .i64 (p % q)) := fun a w hf _ => by
  have h1 : ¬ q = 0 := by omega
  have h2 : p.tmod q = p % q := Int.tmod_eq_emod_of_nonneg hp
  simp [execOp, hf.eval hx, hf.eval hy, eqGuard, binOp, Op.intDiv, h1, h2]
/-- An element of an array that is a value. -/
theorem P.idxArr {N e : Nat} {cs : Array Value} {i : Int} (hu : Tryz.prog.underlying t = some (.array N e)) (hag : NoAgg e) (hsz : Sized e 1) (hx : ev ρ x = some (.agg cs)) (hy : ev ρ y = some (.int .i64 i)) (h0 : 0 ≤ i) (h1 : i < N) (hv : cs[i.toNat]? = some v) : Pure w0 n ρ H ⟨some d, .index t x y, ty, pos, af, g⟩ v := fun a w hf _ => by
  have hp : (part e cs (i.toNat * 1)).run Tryz.prog w = .ok v w := part_cell hag (by rw [Nat.mul_one]; exact hv)
  have hrun : (Instr.index t (.agg cs) (.int .i64 i)).run Tryz.prog w = .ok v w := by
    have hc : (0 ≤ i ∧ i < (N : Int)) := ⟨h0, h1⟩
    unfold Instr.index
    simp only [asIntOf, Sem.run_bind, Sem.run_pure, Result.andThen, run_underlying hu w]
    rw [if_pos hc]
    simp only [Sem.run_bind, hsz w, Result.andThen, hp]
  simp only [execOp, hf.eval hx, hf.eval hy, Sem.run_bind, hrun, Result.andThen, Sem.run_pure]
end
def itoaB (n : Int) : ByteArray := ⟨(Lib.itoa n).toArray⟩
theorem itoa_any (n : Int) (w : World) (hg : Good w) (h : -1000000000000000 ≤ n ∧ n ≤ 1000000000000000) : Calls Tryz.prog 130 #[.int .i64 n] w (RetV w (.string (itoaB n))) :=
  (Tryz.strconv_Itoa n (by omega) (by omega) w hg.tab.here).mono fun e w' ⟨h1, k, os, h2⟩ => ⟨h1, by rw [h2]; exact ⟨Lib.below_grow w.heap.size w (Nat.le_refl _) k os, fun _ _ h => by simp at h, fun _ _ _ _ h => by simp at h⟩⟩
end Go.Proofs.YtlkkiimmangplaaGreatDoor

/- The calendar. -/
namespace Go.Proofs.YtlkkiimmangplaaGreatDoor
open Go.RowKit
set_option linter.unusedVariables false
set_option linter.unusedSimpArgs false

def dayB (n : Int) : Bool := decide (0 ≤ n) && decide (n ≤ 65536)
def leapP (y : Int) : Bool := (y % 4 == 0 && y % 100 != 0) || y % 400 == 0
def firstP (y : Int) : Int := 365 * (y - 2000) + (y - 2000 + 3) / 4 - (y - 2000 + 99) / 100 + (y - 2000 + 399) / 400

set_option maxRecDepth 100000 in
theorem isDay_any (n : Int) (w : World) :
    Calls Tryz.prog 220 #[.int .i64 n] w (RetV w (.bool (dayB n))) := by
  refine enter Tryz.func220 rfl Tryz.ntmps220 rfl ?_
  refine WC.seq ?_
  refine WC.region ?_
  refine WL.p rfl rfl rfl (P.assign rfl) ?_
  refine WL.nil_ ?_
  refine End.seq ?_
  refine WC.seq ?_
  refine WC.region ?_
  refine WL.p rfl rfl rfl (P.move rfl) ?_
  refine WL.p rfl rfl rfl (P.cmp rfl rfl rfl) ?_
  refine WL.p rfl rfl rfl (P.move rfl) ?_
  refine WL.split 5 rfl (fun hs5 => ?_) (fun hs5 => ?_)
  ·
    refine WL.p rfl rfl rfl (P.move rfl) ?_
    refine WL.p rfl rfl rfl (P.cmp rfl rfl rfl) ?_
    refine WL.p rfl rfl rfl (P.pickT rfl rfl) ?_
    refine WL.p rfl rfl rfl (P.assign rfl) ?_
    refine WL.nil_ ?_
    refine End.seq ?_
    refine WC.ret ?_
    refine End.ret1 rfl rfl ?_
    exact fun w' hs' => RetV.of (by simp [dayB, hs5]) hs'
  ·
    refine WL.off rfl rfl ?_
    refine WL.off rfl rfl ?_
    refine WL.p rfl rfl rfl (P.pickF rfl rfl) ?_
    refine WL.p rfl rfl rfl (P.assign rfl) ?_
    refine WL.nil_ ?_
    refine End.seq ?_
    refine WC.ret ?_
    refine End.ret1 rfl rfl ?_
    exact fun w' hs' => RetV.of (by simp [dayB, hs5]) hs'

set_option maxRecDepth 100000 in
theorem first_any (y : Int) (w : World) (hy : 2000 ≤ y ∧ y ≤ 10000) :
    Calls Tryz.prog 275 #[.int .i64 y] w (RetV w (.int .i64 (firstP y))) := by
  refine enter Tryz.func275 rfl Tryz.ntmps275 rfl ?_
  refine WC.seq ?_
  refine WC.region ?_
  refine WL.p rfl rfl rfl (P.assign rfl) ?_
  refine WL.nil_ ?_
  refine End.seq ?_
  refine WC.seq ?_
  refine WC.region ?_
  refine WL.p rfl rfl rfl (P.move rfl) ?_
  refine WL.p rfl rfl rfl (P.ari64 rfl rfl rfl (by omega)) ?_
  refine WL.p rfl rfl rfl (P.assign rfl) ?_
  refine WL.nil_ ?_
  refine End.seq ?_
  refine WC.seq ?_
  refine WC.region ?_
  refine WL.p rfl rfl rfl (P.move rfl) ?_
  refine WL.p rfl rfl rfl (P.ari64 rfl rfl rfl (by omega)) ?_
  refine WL.p rfl rfl rfl (P.move rfl) ?_
  refine WL.p rfl rfl rfl (P.ari64 rfl rfl rfl (by omega)) ?_
  refine WL.p rfl rfl rfl (P.quo rfl rfl (by omega) (by omega) (by omega)) ?_
  refine WL.p rfl rfl rfl (P.ari64 rfl rfl rfl (by omega)) ?_
  refine WL.p rfl rfl rfl (P.move rfl) ?_
  refine WL.p rfl rfl rfl (P.ari64 rfl rfl rfl (by omega)) ?_
  refine WL.p rfl rfl rfl (P.quo rfl rfl (by omega) (by omega) (by omega)) ?_
  refine WL.p rfl rfl rfl (P.ari64 rfl rfl rfl (by omega)) ?_
  refine WL.p rfl rfl rfl (P.move rfl) ?_
  refine WL.p rfl rfl rfl (P.ari64 rfl rfl rfl (by omega)) ?_
  refine WL.p rfl rfl rfl (P.quo rfl rfl (by omega) (by omega) (by omega)) ?_
  refine WL.p rfl rfl rfl (P.ari64 rfl rfl rfl (by omega)) ?_
  refine WL.p rfl rfl rfl (P.assign rfl) ?_
  refine WL.nil_ ?_
  refine End.seq ?_
  refine WC.ret ?_
  refine End.ret1 rfl rfl ?_
  exact fun w' hs' => RetV.of rfl hs'

set_option maxRecDepth 100000 in
theorem leap_any (y : Int) (w : World) (hy : 0 ≤ y ∧ y ≤ 10000) :
    Calls Tryz.prog 314 #[.int .i64 y] w (RetV w (.bool (leapP y))) := by
  refine enter Tryz.func314 rfl Tryz.ntmps314 rfl ?_
  refine WC.seq ?_
  refine WC.region ?_
  refine WL.p rfl rfl rfl (P.assign rfl) ?_
  refine WL.nil_ ?_
  refine End.seq ?_
  refine WC.seq ?_
  refine WC.region ?_
  refine WL.p rfl rfl rfl (P.move rfl) ?_
  refine WL.p rfl rfl rfl (P.rem rfl rfl (by omega) (by omega)) ?_
  refine WL.p rfl rfl rfl (P.cmp rfl rfl rfl) ?_
  refine WL.p rfl rfl rfl (P.move rfl) ?_
  refine WL.split 6 rfl (fun hs6 => ?_) (fun hs6 => ?_)
  ·
    refine WL.p rfl rfl rfl (P.move rfl) ?_
    refine WL.p rfl rfl rfl (P.rem rfl rfl (by omega) (by omega)) ?_
    refine WL.p rfl rfl rfl (P.cmp rfl rfl rfl) ?_
    refine WL.p rfl rfl rfl (P.pickT rfl rfl) ?_
    refine WL.p rfl rfl rfl (P.move rfl) ?_
    refine WL.split 11 rfl (fun hs11 => ?_) (fun hs11 => ?_)
    ·
      refine WL.off rfl rfl ?_
      refine WL.off rfl rfl ?_
      refine WL.off rfl rfl ?_
      refine WL.p rfl rfl rfl (P.pickT rfl rfl) ?_
      refine WL.p rfl rfl rfl (P.assign rfl) ?_
      refine WL.nil_ ?_
      refine End.seq ?_
      refine WC.ret ?_
      refine End.ret1 rfl rfl ?_
      exact fun w' hs' => RetV.of (by simp [leapP, *]) hs'
    ·
      refine WL.p rfl rfl rfl (P.move rfl) ?_
      refine WL.p rfl rfl rfl (P.rem rfl rfl (by omega) (by omega)) ?_
      refine WL.p rfl rfl rfl (P.cmp rfl rfl rfl) ?_
      refine WL.p rfl rfl rfl (P.pickF rfl rfl) ?_
      refine WL.p rfl rfl rfl (P.assign rfl) ?_
      refine WL.nil_ ?_
      refine End.seq ?_
      refine WC.ret ?_
      refine End.ret1 rfl rfl ?_
      exact fun w' hs' => RetV.of (by simp [leapP, *]) hs'
  ·
    refine WL.off rfl rfl ?_
    refine WL.off rfl rfl ?_
    refine WL.off rfl rfl ?_
    refine WL.p rfl rfl rfl (P.pickF rfl rfl) ?_
    refine WL.p rfl rfl rfl (P.move rfl) ?_
    refine WL.p rfl rfl rfl (P.move rfl) ?_
    refine WL.p rfl rfl rfl (P.rem rfl rfl (by omega) (by omega)) ?_
    refine WL.p rfl rfl rfl (P.cmp rfl rfl rfl) ?_
    refine WL.p rfl rfl rfl (P.pickF rfl rfl) ?_
    refine WL.p rfl rfl rfl (P.assign rfl) ?_
    refine WL.nil_ ?_
    refine End.seq ?_
    refine WC.ret ?_
    refine End.ret1 rfl rfl ?_
    exact fun w' hs' => RetV.of (by simp [leapP, *]) hs'

theorem bd_arr {t e N : Nat} {zs cs : Array Value} {ps : Array (Nat × Value)} (hu : Tryz.prog.underlying t = some (.array N e)) (hsz : Sized e 1) (hz : ∀ w : World, (zeroValue t).run Tryz.prog w = .ok (.agg zs) w) (h : Instr.fill (fun i => some (i * 1, 1)) zs ps.toList = some cs) (w : World) : (Instr.build t ps).run Tryz.prog w = .ok (.agg cs) w := by
  unfold Instr.build
  simp only [Sem.run_bind, hz w, Result.andThen, run_underlying hu w, hsz w, Value.cells, h]
  rfl
def lensP (y : Int) : List Int := [31, if leapP y = true then 29 else 28, 31, 30, 31, 30, 31, 31, 30, 31, 30, 31]
abbrev lensC (n : Int) : Array Value := #[.int .i64 31, .int .i64 n, .int .i64 31, .int .i64 30, .int .i64 31, .int .i64 30, .int .i64 31, .int .i64 31, .int .i64 30, .int .i64 31, .int .i64 30, .int .i64 31]

set_option maxRecDepth 100000 in
theorem lengths_any (y : Int) (w : World) (hy : 0 ≤ y ∧ y ≤ 10000) :
    Calls Tryz.prog 276 #[.int .i64 y] w (RetV w (.agg (lensC (if leapP y = true then 29 else 28)))) := by
  refine enter Tryz.func276 rfl Tryz.ntmps276 rfl ?_
  refine WC.seq ?_
  refine WC.region ?_
  refine WL.alloc Tryz.zeroValue283 rfl rfl (fun b2 => ?_)
  refine WL.nil_ ?_
  refine End.seq ?_
  refine WC.seq ?_
  refine WC.region ?_
  refine WL.p rfl rfl rfl (P.build rfl (fun w => bd_arr Tryz.underlying283 Tryz.sizeOf3 Tryz.zeroValue283 (cs := lensC 28) rfl w)) ?_
  refine WL.alloc Tryz.zeroValue283 rfl rfl (fun b3 => ?_)
  refine WL.storeW 0 Tryz.sizeOf283 rfl rfl rfl rfl rfl rfl rfl ?_
  refine WL.nil_ ?_
  refine End.seq ?_
  refine WC.seq ?_
  refine WC.seq ?_
  refine WC.region ?_
  refine WL.p rfl rfl rfl (P.move rfl) ?_
  refine WL.callv (ent_of Tryz.func314 rfl rfl) rfl rfl rfl (fun w hs => leap_any y w hy) ?_
  refine WL.nil_ ?_
  refine End.seq ?_
  refine WC.cond rfl (fun hc6 => ?_) (fun hc6 => ?_)
  ·
    refine WC.region ?_
    refine WL.p rfl rfl rfl (P.elemArr Tryz.underlying283 Tryz.sizeOf3 rfl rfl (by omega) (by omega)) ?_
    refine WL.store 0 Tryz.sizeOf3 rfl rfl rfl rfl rfl rfl ?_
    refine WL.nil_ ?_
    refine End.seq ?_
    refine WC.seq ?_
    refine WC.region ?_
    refine WL.p rfl rfl rfl (P.loadW 0 Tryz.isAgg283 Tryz.sizeOf283 rfl rfl rfl) ?_
    refine WL.storeW 1 Tryz.sizeOf283 rfl rfl rfl rfl rfl rfl rfl ?_
    refine WL.nil_ ?_
    refine End.seq ?_
    refine WC.ret ?_
    refine End.retC 1 rfl Tryz.isAgg283 Tryz.sizeOf283 rfl rfl rfl ?_
    exact fun w' hs' => RetV.of (by rw [if_pos hc6]; rfl) hs'
  ·
    refine WC.skip ?_
    refine End.seq ?_
    refine WC.seq ?_
    refine WC.region ?_
    refine WL.p rfl rfl rfl (P.loadW 0 Tryz.isAgg283 Tryz.sizeOf283 rfl rfl rfl) ?_
    refine WL.storeW 1 Tryz.sizeOf283 rfl rfl rfl rfl rfl rfl rfl ?_
    refine WL.nil_ ?_
    refine End.seq ?_
    refine WC.ret ?_
    refine End.retC 1 rfl Tryz.isAgg283 Tryz.sizeOf283 rfl rfl rfl ?_
    exact fun w' hs' => RetV.of (by rw [if_neg (by rw [hc6]; simp)]) hs'

theorem firstP_mono {a b : Int} (h : a ≤ b) (ha : 2000 ≤ a) : firstP a ≤ firstP b := by unfold firstP; omega
theorem firstP_step {y : Int} (h : 2000 ≤ y) : firstP y + 365 ≤ firstP (y + 1) := by unfold firstP; omega
theorem firstP_big {y : Int} (h : 2000 ≤ y) (h2 : firstP y ≤ 65536) : y ≤ 2200 := by unfold firstP at h2; omega
theorem firstP_init {day : Int} (h : 0 ≤ day) : firstP (2000 + day / 366) ≤ day := by unfold firstP; omega
def yearF : Nat → Int → Int → Int
  | 0, _, y => y
  | f + 1, day, y => if firstP (y + 1) ≤ day then yearF f day (y + 1) else y
def yearIs (day y : Int) : Prop := 2000 ≤ y ∧ firstP y ≤ day ∧ day < firstP (y + 1)
theorem yearF_is (day : Int) : ∀ (f : Nat) (y : Int), 2000 ≤ y → firstP y ≤ day → day < firstP (y + f + 1) → yearIs day (yearF f day y)
  | 0, y, h1, h2, h3 => by
    have h4 : day < firstP (y + 1) := by simpa using h3
    exact ⟨h1, h2, h4⟩
  | f + 1, y, h1, h2, h3 => by
    unfold yearF
    split
    · rename_i h
      exact yearF_is day f (y + 1) (by omega) h (by rw [show y + 1 + (f : Int) + 1 = y + ((f + 1 : Nat) : Int) + 1 by omega]; exact h3)
    · exact ⟨h1, h2, by omega⟩
def yearP (day : Int) : Int := yearF 201 day 2000
theorem dayB_lim {day : Int} (h : dayB day = true) : 0 ≤ day ∧ day ≤ 65536 := by simpa [dayB] using h
theorem yearP_is {day : Int} (h : dayB day = true) : yearIs day (yearP day) := by
  have := dayB_lim h
  refine yearF_is day 201 2000 (by omega) ?_ ?_
  · unfold firstP; omega
  · unfold firstP; omega
theorem yearIs_one {day a b : Int} (h : yearIs day a) (k : yearIs day b) : a = b := by
  obtain ⟨h1, h2, h3⟩ := h
  obtain ⟨k1, k2, k3⟩ := k
  rcases (by omega : a = b ∨ a + 1 ≤ b ∨ b + 1 ≤ a) with h | h | h
  · exact h
  · have := firstP_mono h (by omega); omega
  · have := firstP_mono h (by omega); omega
/-- The month and the day of the month. -/
def mdP : List Int → Int → Int → Int × Int
  | [], _, _ => (0, 0)
  | n :: r, m, d => if d < n then (m + 1, d + 1) else mdP r (m + 1) (d - n)
def mdD (day : Int) : Int × Int := mdP (lensP (yearP day)) 0 (day - firstP (yearP day))
theorem mdP_pos : ∀ (l : List Int) (m d : Int), (∀ n ∈ l, 0 ≤ n) → 0 ≤ m → 0 ≤ d → (0 ≤ (mdP l m d).1 ∧ (mdP l m d).1 ≤ m + l.length) ∧ 0 ≤ (mdP l m d).2 ∧ (mdP l m d).2 ≤ d + 1
  | [], m, d, _, _, _ => by simp only [mdP, List.length_nil]; omega
  | n :: r, m, d, hl, hm, hd => by
    have hn := hl n (List.mem_cons_self ..)
    unfold mdP
    split
    · simp only [List.length_cons]; omega
    · have := mdP_pos r (m + 1) (d - n) (fun x hx => hl x (List.mem_cons_of_mem _ hx)) (by omega) (by omega)
      simp only [List.length_cons]; omega
theorem lens_mem {y n : Int} (h : n ∈ lensP y) : 28 ≤ n ∧ n ≤ 31 := by
  unfold lensP at h
  simp only [List.mem_cons, List.not_mem_nil, or_false] at h
  split at h <;> omega
def yearD (day : Int) : Int := if (mdD day).1 = 0 then 0 else yearP day
theorem drop_cons {l : List Int} {k : Nat} {n : Int} (h : l[k]? = some n) : l.drop k = n :: l.drop (k + 1) := by
  obtain ⟨hk, h⟩ := List.getElem?_eq_some_iff.1 h
  rw [List.drop_eq_getElem_cons hk, h]

set_option maxRecDepth 100000 in
theorem date_any (day : Int) (w : World) (hd : dayB day = true) :
    Calls Tryz.prog 221 #[.int .i64 day] w (RetV w (.tuple #[.int .i64 (yearD day), .int .i64 (mdD day).1, .int .i64 (mdD day).2])) := by
  have hdl := dayB_lim hd
  have hin := firstP_init hdl.1
  refine enter Tryz.func221 rfl Tryz.ntmps221 rfl ?_
  refine WC.seq ?_
  refine WC.region ?_
  refine WL.p rfl rfl rfl (P.assign rfl) ?_
  refine WL.p rfl rfl rfl (P.assign rfl) ?_
  refine WL.p rfl rfl rfl (P.assign rfl) ?_
  refine WL.nil_ ?_
  refine End.seq ?_
  refine WC.seq ?_
  refine WC.seq ?_
  refine WC.region ?_
  refine WL.p rfl rfl rfl (P.move rfl) ?_
  refine WL.callv (ent_of Tryz.func220 rfl rfl) rfl rfl rfl (fun w hs => isDay_any day w) ?_
  refine WL.p rfl rfl rfl (P.not_ rfl) ?_
  refine WL.nil_ ?_
  refine End.seq ?_
  refine WC.cond rfl (fun hc10 => ?_) (fun hc10 => ?_)
  ·
    try simp only [decide_eq_true_eq, decide_eq_false_iff_not, beq_iff_eq, beq_eq_false_iff_ne, bne_iff_ne, bne_eq_false_iff_eq, Bool.not_eq_true', Bool.not_eq_false', ne_eq, Int.not_lt, Int.not_le] at hc10
    exact absurd hc10 (by rw [hd]; simp)
  ·
    try simp only [decide_eq_true_eq, decide_eq_false_iff_not, beq_iff_eq, beq_eq_false_iff_ne, bne_iff_ne, bne_eq_false_iff_eq, Bool.not_eq_true', Bool.not_eq_false', ne_eq, Int.not_lt, Int.not_le] at hc10
    refine WC.skip ?_
    refine End.seq ?_
    refine WC.seq ?_
    refine WC.region ?_
    refine WL.p rfl rfl rfl (P.move rfl) ?_
    refine WL.p rfl rfl rfl (P.quo rfl rfl (by omega) (by omega) (by omega)) ?_
    refine WL.p rfl rfl rfl (P.ari64 rfl rfl rfl (by omega)) ?_
    refine WL.p rfl rfl rfl (P.assign rfl) ?_
    refine WL.nil_ ?_
    refine End.seq ?_
    refine WC.seq ?_
    refine WC.block ?_
    refine WC.loopD (σ := Int) (fun y => [(5, .int .i64 y)]) (fun y => _) (fun y => 2000 ≤ y ∧ firstP y ≤ day) (fun y => (day + 1 - firstP y).toNat) (2000 + day / 366) ⟨by omega, hin⟩ (Env.sub_cons rfl (Env.sub_nil)) [] rfl rfl ?_
    rintro y hy
    have hyb := firstP_big hy.1 (by omega)
    have hst := firstP_step hy.1
    refine WC.seq ?_
    refine WC.seq ?_
    refine WC.region ?_
    refine WL.p rfl rfl rfl (P.move rfl) ?_
    refine WL.p rfl rfl rfl (P.ari64 rfl rfl rfl (by omega)) ?_
    refine WL.callv (ent_of Tryz.func275 rfl rfl) rfl rfl rfl (fun w hs => first_any (y + 1) w (by have := firstP_big hy.1 (by omega); omega)) ?_
    refine WL.p rfl rfl rfl (P.move rfl) ?_
    refine WL.p rfl rfl rfl (P.cmp rfl rfl rfl) ?_
    refine WL.nil_ ?_
    refine End.seq ?_
    refine WC.cond rfl (fun hc18 => ?_) (fun hc18 => ?_)
    ·
      try simp only [decide_eq_true_eq, decide_eq_false_iff_not, beq_iff_eq, beq_eq_false_iff_ne, bne_iff_ne, bne_eq_false_iff_eq, Bool.not_eq_true', Bool.not_eq_false', ne_eq, Int.not_lt, Int.not_le] at hc18
      refine WC.skip ?_
      refine End.seq ?_
      refine WC.block ?_
      refine WC.region ?_
      refine WL.p rfl rfl rfl (P.move rfl) ?_
      refine WL.p rfl rfl rfl (P.ari64 rfl rfl rfl (by omega)) ?_
      refine WL.p rfl rfl rfl (P.assign rfl) ?_
      refine WL.nil_ ?_
      refine End.blkN ?_
      refine End.againD (y + 1) ?_ ?_ rfl (Env.sub_cons rfl (Env.sub_nil)) rfl [] rfl rfl
      · exact ⟨by omega, by omega⟩
      · show (day + 1 - firstP (y + 1)).toNat < (day + 1 - firstP y).toNat; omega
    ·
      try simp only [decide_eq_true_eq, decide_eq_false_iff_not, beq_iff_eq, beq_eq_false_iff_ne, bne_iff_ne, bne_eq_false_iff_eq, Bool.not_eq_true', Bool.not_eq_false', ne_eq, Int.not_lt, Int.not_le] at hc18
      have hyp : y = yearP day := yearIs_one ⟨hy.1, hy.2, by omega⟩ (yearP_is hd)
      have hf0 : 0 ≤ firstP y := by unfold firstP; omega
      refine WC.exit ?_
      refine End.thenX ?_
      refine End.thenX ?_
      refine End.blkX ?_
      refine End.seq ?_
      refine WC.seq ?_
      refine WC.region ?_
      refine WL.p rfl rfl rfl (P.move rfl) ?_
      refine WL.p rfl rfl rfl (P.move rfl) ?_
      refine WL.callv (ent_of Tryz.func275 rfl rfl) rfl rfl rfl (fun w hs => first_any y w (by omega)) ?_
      refine WL.p rfl rfl rfl (P.ari64 rfl rfl rfl (by omega)) ?_
      refine WL.p rfl rfl rfl (P.assign rfl) ?_
      refine WL.nil_ ?_
      refine End.seq ?_
      refine WC.seq ?_
      refine WC.seq ?_
      refine WC.region ?_
      refine WL.p rfl rfl rfl (P.move rfl) ?_
      refine WL.callv (ent_of Tryz.func276 rfl rfl) rfl rfl rfl (fun w hs => lengths_any y w (by omega)) ?_
      refine WL.p rfl rfl rfl (P.move rfl) ?_
      refine WL.nil_ ?_
      refine End.seq ?_
      refine WC.block ?_
      refine WC.loopD (σ := Nat × Int) (fun (k, d) => [(27, .int .i64 (k : Nat)), (0, .int .i64 d)]) (fun (k, d) => _) (fun (k, d) => k ≤ 12 ∧ 0 ≤ d ∧ d ≤ 70000 ∧ mdD day = mdP ((lensP y).drop k) k d) (fun (k, d) => 12 - k) (0, day - firstP y) ⟨by omega, by omega, by omega, by rw [mdD, ← hyp]; rfl⟩ (Env.sub_cons rfl (Env.sub_cons rfl (Env.sub_nil))) [] rfl rfl ?_
      rintro ⟨k, d⟩ ⟨hk, hd0, hd1, hmd⟩
      refine WC.seq ?_
      refine WC.region ?_
      refine WL.p rfl rfl rfl (P.cmp rfl rfl rfl) ?_
      refine WL.nil_ ?_
      refine End.seq ?_
      refine WC.seq ?_
      refine WC.cond rfl (fun hc28 => ?_) (fun hc28 => ?_)
      ·
        try simp only [decide_eq_true_eq, decide_eq_false_iff_not, beq_iff_eq, beq_eq_false_iff_ne, bne_iff_ne, bne_eq_false_iff_eq, Bool.not_eq_true', Bool.not_eq_false', ne_eq, Int.not_lt, Int.not_le] at hc28
        obtain ⟨n, hx⟩ := get_of_lt (xs := lensP y) (k := k) (by show k < 12; omega)
        have hn := lens_mem (List.mem_of_getElem? hx)
        refine WC.skip ?_
        refine End.seq ?_
        refine WC.seq ?_
        refine WC.block ?_
        refine WC.seq ?_
        refine WC.region ?_
        refine WL.p rfl rfl rfl (P.move rfl) ?_
        refine WL.p rfl rfl rfl (P.idxArr Tryz.underlying283 Tryz.isAgg3 Tryz.sizeOf3 rfl rfl (by omega) (by omega) (show (ints (lensP y)).toArray[((k : Nat) : Int).toNat]? = some (.int .i64 n) from by simpa using ints_get hx)) ?_
        refine WL.p rfl rfl rfl (P.assign rfl) ?_
        refine WL.p rfl rfl rfl (P.assign rfl) ?_
        refine WL.nil_ ?_
        refine End.seq ?_
        refine WC.seq ?_
        refine WC.seq ?_
        refine WC.region ?_
        refine WL.p rfl rfl rfl (P.move rfl) ?_
        refine WL.p rfl rfl rfl (P.move rfl) ?_
        refine WL.p rfl rfl rfl (P.cmp rfl rfl rfl) ?_
        refine WL.nil_ ?_
        refine End.seq ?_
        refine WC.cond rfl (fun hc33 => ?_) (fun hc33 => ?_)
        ·
          try simp only [decide_eq_true_eq, decide_eq_false_iff_not, beq_iff_eq, beq_eq_false_iff_ne, bne_iff_ne, bne_eq_false_iff_eq, Bool.not_eq_true', Bool.not_eq_false', ne_eq, Int.not_lt, Int.not_le] at hc33
          refine WC.seq ?_
          refine WC.region ?_
          refine WL.p rfl rfl rfl (P.move rfl) ?_
          refine WL.p rfl rfl rfl (P.move rfl) ?_
          refine WL.p rfl rfl rfl (P.ari64 rfl rfl rfl (by omega)) ?_
          refine WL.p rfl rfl rfl (P.move rfl) ?_
          refine WL.p rfl rfl rfl (P.ari64 rfl rfl rfl (by omega)) ?_
          refine WL.p rfl rfl rfl (P.assign rfl) ?_
          refine WL.p rfl rfl rfl (P.assign rfl) ?_
          refine WL.p rfl rfl rfl (P.assign rfl) ?_
          refine WL.nil_ ?_
          refine End.seq ?_
          refine WC.ret ?_
          refine End.thenR ?_
          refine End.blkR ?_
          refine End.thenR ?_
          refine End.thenR ?_
          refine End.blkR ?_
          refine End.thenR ?_
          refine End.ret3 rfl rfl rfl rfl ?_
          have hmm : mdD day = ((k : Int) + 1, d + 1) := by rw [hmd, drop_cons hx, mdP, if_pos (by omega)]
          exact fun w' hs' => RetV.of (by rw [yearD, hmm, if_neg (show ¬ ((k : Int) + 1) = 0 by omega), hyp]) hs'
        ·
          try simp only [decide_eq_true_eq, decide_eq_false_iff_not, beq_iff_eq, beq_eq_false_iff_ne, bne_iff_ne, bne_eq_false_iff_eq, Bool.not_eq_true', Bool.not_eq_false', ne_eq, Int.not_lt, Int.not_le] at hc33
          refine WC.skip ?_
          refine End.seq ?_
          refine WC.region ?_
          refine WL.p rfl rfl rfl (P.move rfl) ?_
          refine WL.p rfl rfl rfl (P.move rfl) ?_
          refine WL.p rfl rfl rfl (P.ari64 rfl rfl rfl (by omega)) ?_
          refine WL.p rfl rfl rfl (P.assign rfl) ?_
          refine WL.nil_ ?_
          refine End.blkN ?_
          refine End.seq ?_
          refine WC.region ?_
          refine WL.p rfl rfl rfl (P.ari64 rfl rfl rfl (by omega)) ?_
          refine WL.p rfl rfl rfl (P.move rfl) ?_
          refine WL.nil_ ?_
          refine End.againD (k + 1, d - n) ?_ ?_ rfl (Env.sub_cons rfl (Env.sub_cons rfl (Env.sub_nil))) rfl [] rfl rfl
          · exact ⟨by omega, by omega, by omega, by rw [hmd, drop_cons hx, mdP, if_neg (by omega)]; rfl⟩
          · show 12 - (k + 1) < 12 - k; omega
      ·
        try simp only [decide_eq_true_eq, decide_eq_false_iff_not, beq_iff_eq, beq_eq_false_iff_ne, bne_iff_ne, bne_eq_false_iff_eq, Bool.not_eq_true', Bool.not_eq_false', ne_eq, Int.not_lt, Int.not_le] at hc28
        refine WC.exit ?_
        refine End.thenX ?_
        refine End.thenX ?_
        refine End.blkX ?_
        refine End.seq ?_
        refine WC.seq ?_
        refine WC.region ?_
        refine WL.p rfl rfl rfl (P.assign rfl) ?_
        refine WL.p rfl rfl rfl (P.assign rfl) ?_
        refine WL.p rfl rfl rfl (P.assign rfl) ?_
        refine WL.nil_ ?_
        refine End.seq ?_
        refine WC.ret ?_
        refine End.ret3 rfl rfl rfl rfl ?_
        have ek : k = 12 := by omega
        have hmm : mdD day = (0, 0) := by rw [hmd, ek]; rfl
        exact fun w' hs' => RetV.of (by rw [yearD, hmm]; rfl) hs'

end Go.Proofs.YtlkkiimmangplaaGreatDoor

/- Counts and profiles through the codec. -/
namespace Go.Proofs.YtlkkiimmangplaaGreatDoor
open Go.RowKit
set_option linter.unusedVariables false
set_option linter.unusedSimpArgs false

set_option maxRecDepth 100000 in
theorem count_w (c : Nat) (out : ByteArray) (n most : Int) (w0 w : World) (H : List It) (hst : St w0 (cB c out none :: H) w) (ho : out.size < 4294967296) (hn : 0 ≤ n ∧ n < 9223372036854775808) (hm : 0 ≤ most ∧ most < 1000) :
    Calls Tryz.prog 263 #[.pointer (some ⟨c, 0, none⟩), .int .i64 n, .int .i64 most] w (Mo w0 (.int .i64 (if most < n then most + 1 else n)) (cB c (out ++ strOfNums (encF 9 n)) none :: H)) := by
  refine enterH Tryz.func263 rfl Tryz.ntmps263 rfl hst ?_
  refine WC.seq ?_
  refine WC.region ?_
  refine WL.box rfl rfl rfl (fun b4 => ?_)
  refine WL.p rfl rfl rfl (P.assign rfl) ?_
  refine WL.nil_ ?_
  refine End.seq ?_
  refine WC.seq ?_
  refine WC.region ?_
  refine WL.p rfl rfl rfl (P.move rfl) ?_
  refine WL.callo (H' := _) (ent_of Tryz.func210 rfl rfl) rfl rfl rfl (fun w hs => (number_w c out ⟨b4, 0, none⟩ n w0 w _ hs.swap2 (fun cs w hs => (cell_blk (hs.ok 1 _ rfl).2).trans rfl) ho hn).mono fun e w' h => h.swap2) ?_
  refine WL.nil_ ?_
  refine End.seq ?_
  refine WC.seq ?_
  refine WC.seq ?_
  refine WC.region ?_
  refine WL.p rfl rfl rfl (P.loadO 0 Tryz.isAgg3 rfl rfl rfl) ?_
  refine WL.p rfl rfl rfl (P.cmp rfl rfl rfl) ?_
  refine WL.p rfl rfl rfl (P.move rfl) ?_
  refine WL.split 11 rfl (fun hs11 => ?_) (fun hs11 => ?_)
  ·
    try simp only [decide_eq_true_eq, decide_eq_false_iff_not, beq_iff_eq, beq_eq_false_iff_ne, bne_iff_ne, bne_eq_false_iff_eq, Bool.not_eq_true', Bool.not_eq_false', ne_eq, Int.not_lt, Int.not_le] at hs11
    refine WL.off rfl rfl ?_
    refine WL.off rfl rfl ?_
    refine WL.off rfl rfl ?_
    refine WL.p rfl rfl rfl (P.pickT rfl rfl) ?_
    refine WL.nil_ ?_
    refine End.seq ?_
    refine WC.condT rfl ?_
    refine WC.seq ?_
    refine WC.region ?_
    refine WL.p rfl rfl rfl (P.move rfl) ?_
    refine WL.p rfl rfl rfl (P.ari64 rfl rfl rfl (by omega)) ?_
    refine WL.p rfl rfl rfl (P.assign rfl) ?_
    refine WL.nil_ ?_
    refine End.seq ?_
    refine WC.ret ?_
    refine End.thenR ?_
    refine End.ret1 rfl rfl ?_
    omega
  ·
    try simp only [decide_eq_true_eq, decide_eq_false_iff_not, beq_iff_eq, beq_eq_false_iff_ne, bne_iff_ne, bne_eq_false_iff_eq, Bool.not_eq_true', Bool.not_eq_false', ne_eq, Int.not_lt, Int.not_le] at hs11
    refine WL.p rfl rfl rfl (P.loadO 0 Tryz.isAgg3 rfl rfl rfl) ?_
    refine WL.p rfl rfl rfl (P.move rfl) ?_
    refine WL.p rfl rfl rfl (P.cmp rfl rfl rfl) ?_
    refine WL.p rfl rfl rfl (P.pickF rfl rfl) ?_
    refine WL.nil_ ?_
    refine End.seq ?_
    refine WC.cond rfl (fun hc15 => ?_) (fun hc15 => ?_)
    ·
      try simp only [decide_eq_true_eq, decide_eq_false_iff_not, beq_iff_eq, beq_eq_false_iff_ne, bne_iff_ne, bne_eq_false_iff_eq, Bool.not_eq_true', Bool.not_eq_false', ne_eq, Int.not_lt, Int.not_le] at hc15
      refine WC.seq ?_
      refine WC.region ?_
      refine WL.p rfl rfl rfl (P.move rfl) ?_
      refine WL.p rfl rfl rfl (P.ari64 rfl rfl rfl (by omega)) ?_
      refine WL.p rfl rfl rfl (P.assign rfl) ?_
      refine WL.nil_ ?_
      refine End.seq ?_
      refine WC.ret ?_
      refine End.thenR ?_
      refine End.ret1 rfl rfl ?_
      exact fun w' hs' => Mo.of (by rw [if_pos (by omega)]) rfl hs'.tail
    ·
      try simp only [decide_eq_true_eq, decide_eq_false_iff_not, beq_iff_eq, beq_eq_false_iff_ne, bne_iff_ne, bne_eq_false_iff_eq, Bool.not_eq_true', Bool.not_eq_false', ne_eq, Int.not_lt, Int.not_le] at hc15
      refine WC.skip ?_
      refine End.seq ?_
      refine WC.seq ?_
      refine WC.region ?_
      refine WL.p rfl rfl rfl (P.loadO 0 Tryz.isAgg3 rfl rfl rfl) ?_
      refine WL.p rfl rfl rfl (P.assign rfl) ?_
      refine WL.nil_ ?_
      refine End.seq ?_
      refine WC.ret ?_
      refine End.ret1 rfl rfl ?_
      exact fun w' hs' => Mo.of (by rw [if_neg (by omega)]; rfl) rfl hs'.tail

/-- A length that was read. -/
def cntR (most : Int) (x : Rd) : Int := if clampN x.num.1 < 0 ∨ most < clampN x.num.1 then most + 1 else clampN x.num.1

set_option maxRecDepth 100000 in
theorem count_r (r c : Nat) (x : Rd) (out : ByteArray) (n most : Int) (w0 w : World) (H : List It) (hst : St w0 (rdB r x :: cB c out (some ⟨r, 0, none⟩) :: H) w) (hsz : x.1.size < 4294967296) (hm : 0 ≤ most ∧ most < 1000) :
    Calls Tryz.prog 263 #[.pointer (some ⟨c, 0, none⟩), .int .i64 n, .int .i64 most] w (Mo w0 (.int .i64 (cntR most x)) (rdB r x.num.2 :: cB c out (some ⟨r, 0, none⟩) :: H)) := by
  refine enterH Tryz.func263 rfl Tryz.ntmps263 rfl hst ?_
  refine WC.seq ?_
  refine WC.region ?_
  refine WL.box rfl rfl rfl (fun b4 => ?_)
  refine WL.p rfl rfl rfl (P.assign rfl) ?_
  refine WL.nil_ ?_
  refine End.seq ?_
  refine WC.seq ?_
  refine WC.region ?_
  refine WL.p rfl rfl rfl (P.move rfl) ?_
  refine WL.callo (H' := _) (ent_of Tryz.func210 rfl rfl) rfl rfl rfl (fun w hs => (number_r r c b4 3 0 x out _ w0 w _ hs.rot3 hsz rfl).mono fun e w' h => ⟨h.1, h.2.tor3⟩) ?_
  refine WL.nil_ ?_
  refine End.seq ?_
  refine WC.seq ?_
  refine WC.seq ?_
  refine WC.region ?_
  refine WL.p rfl rfl rfl (P.loadO 0 Tryz.isAgg3 rfl rfl rfl) ?_
  refine WL.p rfl rfl rfl (P.cmp rfl rfl rfl) ?_
  refine WL.p rfl rfl rfl (P.move rfl) ?_
  refine WL.split 11 rfl (fun hs11 => ?_) (fun hs11 => ?_)
  ·
    try simp only [decide_eq_true_eq, decide_eq_false_iff_not, beq_iff_eq, beq_eq_false_iff_ne, bne_iff_ne, bne_eq_false_iff_eq, Bool.not_eq_true', Bool.not_eq_false', ne_eq, Int.not_lt, Int.not_le] at hs11
    refine WL.off rfl rfl ?_
    refine WL.off rfl rfl ?_
    refine WL.off rfl rfl ?_
    refine WL.p rfl rfl rfl (P.pickT rfl rfl) ?_
    refine WL.nil_ ?_
    refine End.seq ?_
    refine WC.condT rfl ?_
    refine WC.seq ?_
    refine WC.region ?_
    refine WL.p rfl rfl rfl (P.move rfl) ?_
    refine WL.p rfl rfl rfl (P.ari64 rfl rfl rfl (by omega)) ?_
    refine WL.p rfl rfl rfl (P.assign rfl) ?_
    refine WL.nil_ ?_
    refine End.seq ?_
    refine WC.ret ?_
    refine End.thenR ?_
    refine End.ret1 rfl rfl ?_
    exact fun w' hs' => Mo.of (by rw [cntR, if_pos (.inl (by omega))]) rfl hs'.tail
  ·
    try simp only [decide_eq_true_eq, decide_eq_false_iff_not, beq_iff_eq, beq_eq_false_iff_ne, bne_iff_ne, bne_eq_false_iff_eq, Bool.not_eq_true', Bool.not_eq_false', ne_eq, Int.not_lt, Int.not_le] at hs11
    refine WL.p rfl rfl rfl (P.loadO 0 Tryz.isAgg3 rfl rfl rfl) ?_
    refine WL.p rfl rfl rfl (P.move rfl) ?_
    refine WL.p rfl rfl rfl (P.cmp rfl rfl rfl) ?_
    refine WL.p rfl rfl rfl (P.pickF rfl rfl) ?_
    refine WL.nil_ ?_
    refine End.seq ?_
    refine WC.cond rfl (fun hc15 => ?_) (fun hc15 => ?_)
    ·
      try simp only [decide_eq_true_eq, decide_eq_false_iff_not, beq_iff_eq, beq_eq_false_iff_ne, bne_iff_ne, bne_eq_false_iff_eq, Bool.not_eq_true', Bool.not_eq_false', ne_eq, Int.not_lt, Int.not_le] at hc15
      refine WC.seq ?_
      refine WC.region ?_
      refine WL.p rfl rfl rfl (P.move rfl) ?_
      refine WL.p rfl rfl rfl (P.ari64 rfl rfl rfl (by omega)) ?_
      refine WL.p rfl rfl rfl (P.assign rfl) ?_
      refine WL.nil_ ?_
      refine End.seq ?_
      refine WC.ret ?_
      refine End.thenR ?_
      refine End.ret1 rfl rfl ?_
      exact fun w' hs' => Mo.of (by rw [cntR, if_pos (.inr (by omega))]) rfl hs'.tail
    ·
      try simp only [decide_eq_true_eq, decide_eq_false_iff_not, beq_iff_eq, beq_eq_false_iff_ne, bne_iff_ne, bne_eq_false_iff_eq, Bool.not_eq_true', Bool.not_eq_false', ne_eq, Int.not_lt, Int.not_le] at hc15
      refine WC.skip ?_
      refine End.seq ?_
      refine WC.seq ?_
      refine WC.region ?_
      refine WL.p rfl rfl rfl (P.loadO 0 Tryz.isAgg3 rfl rfl rfl) ?_
      refine WL.p rfl rfl rfl (P.assign rfl) ?_
      refine WL.nil_ ?_
      refine End.seq ?_
      refine WC.ret ?_
      refine End.ret1 rfl rfl ?_
      exact fun w' hs' => Mo.of (by rw [cntR, if_neg (by omega)]; rfl) rfl hs'.tail

def gOut (s : ByteArray) (g : Gr) : ByteArray := s ++ encText g.who ++ strOfNums [if g.group then 1 else 0] ++ strOfNums (encF 9 g.level)
def gsOut (out : ByteArray) (gs : List Gr) : ByteArray := gs.foldl gOut out
theorem gsOut_snoc {l : List Gr} {k : Nat} {g : Gr} (h : l[k]? = some g) (out : ByteArray) : gsOut out (l.take (k + 1)) = gOut (gsOut out (l.take k)) g := by rw [take_snoc h]; simp [gsOut]
theorem encText_size (s : ByteArray) : (encText s).size ≤ s.size + 10 := by
  have := encF_len 9 s.size
  simp only [encText, size_append, strOfNums_size]
  omega
theorem gsOut_size : ∀ (l : List Gr) (out : ByteArray), (∀ g ∈ l, g.who.size < 1000) → (gsOut out l).size ≤ out.size + 1100 * l.length
  | [], out, _ => by simp [gsOut]
  | g :: r, out, h => by
    have ih := gsOut_size r (gOut out g) (fun x hx => h x (List.mem_cons_of_mem _ hx))
    have h1 := h g (List.mem_cons_self ..)
    have h2 := encText_size g.who
    have h3 := encF_len 9 g.level
    simp only [gsOut, List.foldl_cons, List.length_cons, gOut, size_append, strOfNums_size, List.length_cons, List.length_nil] at ih ⊢
    omega
def profOut (out : ByteArray) (level : Int) (owner : ByteArray) (gs : List Gr) : ByteArray := gsOut (out ++ strOfNums (encF 9 level) ++ encText owner ++ strOfNums (encF 9 gs.length)) gs

set_option maxRecDepth 100000 in
theorem profile_w (c q : Nat) (out : ByteArray) (cs : Array Value) (level : Int) (owner : ByteArray) (A : Option Addr) (c2 : Nat) (gs : List Gr) (w0 w : World) (H : List It) (hst : St w0 (cB c out none :: .blk q 34 cs :: H) w) (h31 : cs[31]? = some (.int .i64 level)) (h28 : cs[28]? = some (.string owner)) (h32 : cs[32]? = some (.slice A gs.length c2)) (hr : Sl Gr.cells 3 w0 A gs) (hlv : 0 ≤ level ∧ level < 9223372036854775808) (hgl : ∀ g ∈ gs, 0 ≤ g.level ∧ g.level < 9223372036854775808) (hgw : ∀ g ∈ gs, g.who.size < 1000) (hn : gs.length ≤ 8) (ho : out.size + 20000 < 4294967296) (how : owner.size < 4294900000) (hsum : out.size + owner.size + 20000 < 4294967296) :
    Calls Tryz.prog 212 #[.pointer (some ⟨c, 0, none⟩), .pointer (some ⟨q, 0, none⟩)] w (Mo w0 (.tuple #[]) (cB c (profOut out level owner gs) none :: .blk q 34 cs :: H)) := by
  have hz1 := encF_len 9 level
  have hz2 := encText_size owner
  have hz3 := encF_len 9 gs.length
  have hz4 : (out ++ strOfNums (encF 9 level) ++ encText owner ++ strOfNums (encF 9 gs.length)).size ≤ out.size + owner.size + 40 := by simp only [size_append, strOfNums_size]; omega
  refine enterH Tryz.func212 rfl Tryz.ntmps212 rfl hst ?_
  refine WC.seq ?_
  refine WC.region ?_
  refine WL.p rfl rfl rfl (P.move rfl) ?_
  refine WL.p rfl rfl rfl (P.move rfl) ?_
  refine WL.p rfl rfl rfl (P.nilCheck rfl) ?_
  refine WL.p rfl rfl rfl (P.fieldAddr fa_34_11 rfl) ?_
  refine WL.callo (H' := _) (ent_of Tryz.func210 rfl rfl) rfl rfl rfl (fun w hs => (number_w c out ⟨q, 31, none⟩ level w0 w _ hs (fun cs w hs => (cell_blk (hs.ok 1 _ rfl).2).trans h31) (by omega) hlv)) ?_
  refine WL.nil_ ?_
  refine End.seq ?_
  refine WC.seq ?_
  refine WC.region ?_
  refine WL.p rfl rfl rfl (P.move rfl) ?_
  refine WL.p rfl rfl rfl (P.move rfl) ?_
  refine WL.p rfl rfl rfl (P.nilCheck rfl) ?_
  refine WL.p rfl rfl rfl (P.fieldAddr fa_34_8 rfl) ?_
  refine WL.callo (H' := _) (ent_of Tryz.func199 rfl rfl) rfl rfl rfl (fun w hs => (text_w c _ ⟨q, 28, none⟩ owner w0 w _ hs (fun cs w hs => (cell_blk (hs.ok 1 _ rfl).2).trans h28) (by simp only [size_append, strOfNums_size]; omega) (by omega))) ?_
  refine WL.nil_ ?_
  refine End.seq ?_
  refine WC.seq ?_
  refine WC.region ?_
  refine WL.p rfl rfl rfl (P.move rfl) ?_
  refine WL.p rfl rfl rfl (P.move rfl) ?_
  refine WL.p rfl rfl rfl (P.nilCheck rfl) ?_
  refine WL.p rfl rfl rfl (P.fieldAddr fa_34_12 rfl) ?_
  refine WL.p rfl rfl rfl (P.loadO 1 Tryz.isAgg32 rfl rfl h32) ?_
  refine WL.p rfl rfl rfl (P.lenR Tryz.underlying32 rfl) ?_
  refine WL.callo (H' := _) (ent_of Tryz.func263 rfl rfl) rfl rfl rfl (fun w hs => (count_w c _ gs.length 8 w0 w _ hs (by simp only [size_append, strOfNums_size]; omega) (by omega) (by omega))) ?_
  refine WL.p rfl rfl rfl (P.assign rfl) ?_
  refine WL.nil_ ?_
  refine End.seq ?_
  refine WC.seq ?_
  refine WC.seq ?_
  refine WC.region ?_
  refine WL.p rfl rfl rfl (P.move rfl) ?_
  refine WL.p rfl rfl rfl (P.nilCheck rfl) ?_
  refine WL.p rfl rfl rfl (P.fieldAddr fa_155_1 rfl) ?_
  refine WL.p rfl rfl rfl (P.loadO 0 Tryz.isAgg152 rfl rfl rfl) ?_
  refine WL.p rfl rfl rfl (P.neNil Tryz.underlying152 rfl rfl) ?_
  refine WL.p rfl rfl rfl (P.move rfl) ?_
  refine WL.split 29 rfl (fun hs29 => ?_) (fun hs29 => ?_)
  ·
    try simp only [decide_eq_true_eq, decide_eq_false_iff_not, beq_iff_eq, beq_eq_false_iff_ne, bne_iff_ne, bne_eq_false_iff_eq, Bool.not_eq_true', Bool.not_eq_false', ne_eq, Int.not_lt, Int.not_le] at hs29
    cases hs29
  ·
    try simp only [decide_eq_true_eq, decide_eq_false_iff_not, beq_iff_eq, beq_eq_false_iff_ne, bne_iff_ne, bne_eq_false_iff_eq, Bool.not_eq_true', Bool.not_eq_false', ne_eq, Int.not_lt, Int.not_le] at hs29
    refine WL.off rfl rfl ?_
    refine WL.off rfl rfl ?_
    refine WL.p rfl rfl rfl (P.pickF rfl rfl) ?_
    refine WL.nil_ ?_
    refine End.seq ?_
    refine WC.condF rfl ?_
    refine WC.skip ?_
    refine End.seq ?_
    refine WC.seq ?_
    refine WC.region ?_
    refine WL.p rfl rfl rfl (P.move rfl) ?_
    refine WL.p rfl rfl rfl (P.nilCheck rfl) ?_
    refine WL.p rfl rfl rfl (P.fieldAddr fa_34_12 rfl) ?_
    refine WL.p rfl rfl rfl (P.loadO 1 Tryz.isAgg32 rfl rfl h32) ?_
    refine WL.p rfl rfl rfl (P.lenR Tryz.underlying32 rfl) ?_
    refine WL.p rfl rfl rfl (P.move rfl) ?_
    refine WL.nil_ ?_
    refine End.seq ?_
    refine WC.block ?_
    refine WC.loopD (σ := Nat) (fun k => [(43, .int .i64 (k : Nat))]) (fun k => (cB c (gsOut (out ++ strOfNums (encF 9 level) ++ encText owner ++ strOfNums (encF 9 gs.length)) (gs.take k)) none :: .blk q 34 cs :: H)) (fun k => k ≤ gs.length) (fun k => gs.length - k) 0 (Nat.zero_le _) (Env.sub_cons rfl (Env.sub_nil)) (List.range _) selOk_range (sel_range.trans rfl) ?_
    rintro k hk
    refine WC.seq ?_
    refine WC.region ?_
    refine WL.p rfl rfl rfl (P.cmp rfl rfl rfl) ?_
    refine WL.nil_ ?_
    refine End.seq ?_
    refine WC.seq ?_
    refine WC.cond rfl (fun hc44 => ?_) (fun hc44 => ?_)
    ·
      try simp only [decide_eq_true_eq, decide_eq_false_iff_not, beq_iff_eq, beq_eq_false_iff_ne, bne_iff_ne, bne_eq_false_iff_eq, Bool.not_eq_true', Bool.not_eq_false', ne_eq, Int.not_lt, Int.not_le] at hc44
      obtain ⟨b, off, rfl, hcx⟩ := hr.at_ (by omega)
      obtain ⟨g, hg⟩ := get_of_lt (xs := gs) (k := k) (by omega)
      refine WC.skip ?_
      refine End.seq ?_
      refine WC.seq ?_
      refine WC.block ?_
      refine WC.seq ?_
      refine WC.region ?_
      refine WL.p rfl rfl rfl (P.move rfl) ?_
      refine WL.p rfl rfl rfl (P.assign rfl) ?_
      refine WL.nil_ ?_
      refine End.seq ?_
      refine WC.seq ?_
      refine WC.region ?_
      refine WL.p rfl rfl rfl (P.move rfl) ?_
      refine WL.p rfl rfl rfl (P.nilCheck rfl) ?_
      refine WL.p rfl rfl rfl (P.fieldAddr fa_34_12 rfl) ?_
      refine WL.p rfl rfl rfl (P.loadO 1 Tryz.isAgg32 rfl rfl h32) ?_
      refine WL.p rfl rfl rfl (P.move rfl) ?_
      refine WL.p rfl rfl rfl (P.elemAddr Tryz.underlying32 Tryz.sizeOf51 rfl rfl (by omega) (by omega)) ?_
      refine WL.p rfl rfl rfl (P.assign rfl) ?_
      refine WL.nil_ ?_
      refine End.seq ?_
      refine WC.seq ?_
      refine WC.region ?_
      refine WL.p rfl rfl rfl (P.move rfl) ?_
      refine WL.p rfl rfl rfl (P.move rfl) ?_
      refine WL.p rfl rfl rfl (P.nilCheck rfl) ?_
      refine WL.p rfl rfl rfl (P.fieldAddr fa_51_0 rfl) ?_
      refine WL.callo (H' := _) (ent_of Tryz.func199 rfl rfl) rfl rfl rfl (fun w hs => (text_w c (gsOut (out ++ strOfNums (encF 9 level) ++ encText owner ++ strOfNums (encF 9 gs.length)) (gs.take k)) _ g.who w0 w _ hs (fun cs w hs => hs.cell0 (hcx k g hg 0 _ rfl)) (by have := gsOut_size (gs.take k) (out ++ strOfNums (encF 9 level) ++ encText owner ++ strOfNums (encF 9 gs.length)) (fun g h => hgw g (List.mem_of_mem_take h)); rw [List.length_take] at this; omega) (by have := hgw g (List.mem_of_getElem? hg); omega))) ?_
      refine WL.nil_ ?_
      refine End.seq ?_
      refine WC.seq ?_
      refine WC.region ?_
      refine WL.p rfl rfl rfl (P.move rfl) ?_
      refine WL.p rfl rfl rfl (P.move rfl) ?_
      refine WL.p rfl rfl rfl (P.nilCheck rfl) ?_
      refine WL.p rfl rfl rfl (P.fieldAddr fa_51_1 rfl) ?_
      refine WL.callo (H' := _) (ent_of Tryz.func198 rfl rfl) rfl rfl rfl (fun w hs => (truth_w c _ _ g.group w0 w _ hs (fun cs w hs => hs.cell0 (hcx k g hg 1 _ rfl)) (by have := gsOut_size (gs.take k) (out ++ strOfNums (encF 9 level) ++ encText owner ++ strOfNums (encF 9 gs.length)) (fun g h => hgw g (List.mem_of_mem_take h)); rw [List.length_take] at this; have := hgw g (List.mem_of_getElem? hg); have := encText_size g.who; simp only [size_append]; omega))) ?_
      refine WL.nil_ ?_
      refine End.seq ?_
      refine WC.region ?_
      refine WL.p rfl rfl rfl (P.move rfl) ?_
      refine WL.p rfl rfl rfl (P.move rfl) ?_
      refine WL.p rfl rfl rfl (P.nilCheck rfl) ?_
      refine WL.p rfl rfl rfl (P.fieldAddr fa_51_2 rfl) ?_
      refine WL.callo (H' := _) (ent_of Tryz.func210 rfl rfl) rfl rfl rfl (fun w hs => (number_w c _ _ g.level w0 w _ hs (fun cs w hs => hs.cell0 (hcx k g hg 2 _ rfl)) (by have := gsOut_size (gs.take k) (out ++ strOfNums (encF 9 level) ++ encText owner ++ strOfNums (encF 9 gs.length)) (fun g h => hgw g (List.mem_of_mem_take h)); rw [List.length_take] at this; have := hgw g (List.mem_of_getElem? hg); have := encText_size g.who; simp only [size_append, strOfNums_size, List.length_cons, List.length_nil]; omega) (hgl g (List.mem_of_getElem? hg)))) ?_
      refine WL.nil_ ?_
      refine End.blkN ?_
      refine End.seq ?_
      refine WC.region ?_
      refine WL.p rfl rfl rfl (P.ari64 rfl rfl rfl (by omega)) ?_
      refine WL.p rfl rfl rfl (P.move rfl) ?_
      refine WL.nil_ ?_
      refine End.againD (k + 1) ?_ ?_ rfl (Env.sub_cons rfl (Env.sub_nil)) rfl (List.range _) selOk_range (sel_range.trans (by rw [gsOut_snoc hg]; rfl))
      · show k + 1 ≤ gs.length; omega
      · omega
    ·
      try simp only [decide_eq_true_eq, decide_eq_false_iff_not, beq_iff_eq, beq_eq_false_iff_ne, bne_iff_ne, bne_eq_false_iff_eq, Bool.not_eq_true', Bool.not_eq_false', ne_eq, Int.not_lt, Int.not_le] at hc44
      refine WC.exit ?_
      refine End.thenX ?_
      refine End.thenX ?_
      refine End.blkX ?_
      refine End.norm ?_
      refine End.ret0 rfl ?_
      have e : k = gs.length := by omega
      exact fun w' hs' => Mo.of rfl (by rw [e, List.take_length]; rfl) hs'

/-- Grants that are read, one behind the other. -/
def gStep (s : List Gr × Rd) : List Gr × Rd := (s.1 ++ [⟨(s.2.text 200).1, (s.2.text 200).2.bool.1, clampN (s.2.text 200).2.bool.2.num.1⟩], (s.2.text 200).2.bool.2.num.2)
def gRead (x : Rd) : Nat → List Gr × Rd
  | 0 => ([], x)
  | k + 1 => gStep (gRead x k)
theorem gRead_len (x : Rd) : ∀ k, (gRead x k).1.length = k
  | 0 => rfl
  | k + 1 => by simp only [gRead, gStep, List.length_append, gRead_len x k, List.length_cons, List.length_nil]
theorem gRead_size (x : Rd) : ∀ k, (gRead x k).2.1.size ≤ x.1.size
  | 0 => Nat.le_refl _
  | k + 1 => by
    have h1 := gRead_size x k
    have h2 := Rd.text_size (gRead x k).2 200
    have h3 := Rd.bool_size ((gRead x k).2.text 200).2
    have h4 := Rd.num_size ((gRead x k).2.text 200).2.bool.2
    show ((gRead x k).2.text 200).2.bool.2.num.2.1.size ≤ _
    omega
def gIt (b : Nat) (l : List Gr) : It := if l.length = 0 then .nil else .blk b 51 (gcells l).toArray
def gVal (b : Nat) (n : Nat) : Value := if n = 0 then vnil else .slice (some ⟨b, 0, none⟩) n n
def prX (x : Rd) : Rd := (x.num.2.text 200).2
def prN (x : Rd) : Nat := (cntR 8 (prX x)).toNat
def prG (x : Rd) : List Gr × Rd := gRead (prX x).num.2 (prN x)
def prC (cs : Array Value) (x : Rd) (v : Value) : Array Value := ((cs.setIfInBounds 31 (.int .i64 (clampN x.num.1))).setIfInBounds 28 (.string (x.num.2.text 200).1)).setIfInBounds 32 v
theorem cntR_le (x : Rd) : 0 ≤ cntR 8 x ∧ cntR 8 x ≤ 9 := by
  unfold cntR
  split <;> omega
theorem set_same {cs : Array Value} {k : Nat} {v : Value} (h : cs[k]? = some v) : cs.setIfInBounds k v = cs := by
  apply Array.ext_getElem?
  intro i
  rw [Array.getElem?_setIfInBounds]
  split
  · rename_i e; subst e
    split
    · exact h.symm
    · rename_i hh; rw [Array.getElem?_eq_none (by omega)]
  · rfl

set_option maxRecDepth 100000 in
theorem profile_r (r c q : Nat) (x : Rd) (out : ByteArray) (cs : Array Value) (w0 w : World) (H : List It) (hst : St w0 (rdB r x :: cB c out (some ⟨r, 0, none⟩) :: .blk q 34 cs :: H) w) (hsz : x.1.size < 4294967296) (hcs : cs.size = 33) (h32 : cs[32]? = some vnil) :
    Calls Tryz.prog 212 #[.pointer (some ⟨c, 0, none⟩), .pointer (some ⟨q, 0, none⟩)] w (fun en w' => ∃ b : Nat, en = .returned (.tuple #[]) ∧ St w0 (rdB r (prG x).2 :: cB c out (some ⟨r, 0, none⟩) :: gIt b (prG x).1 :: .blk q 34 (prC cs x (gVal b (prN x))) :: H) w') := by
  have hz1 := Rd.num_size x
  have hz2 := Rd.text_size x.num.2 200
  have hz3 := Rd.num_size (prX x)
  have hz4 : (prX x).1.size < 4294967296 := by unfold prX; omega
  have hcn := cntR_le (prX x)
  have hpn : prN x ≤ 9 := by unfold prN; omega
  have h32' : ((cs.setIfInBounds 31 (.int .i64 (clampN x.num.1))).setIfInBounds 28 (.string (x.num.2.text 200).1))[32]? = some vnil := by rw [Array.getElem?_setIfInBounds_ne (by decide), Array.getElem?_setIfInBounds_ne (by decide)]; exact h32
  refine enterH Tryz.func212 rfl Tryz.ntmps212 rfl hst ?_
  refine WC.seq ?_
  refine WC.region ?_
  refine WL.p rfl rfl rfl (P.move rfl) ?_
  refine WL.p rfl rfl rfl (P.move rfl) ?_
  refine WL.p rfl rfl rfl (P.nilCheck rfl) ?_
  refine WL.p rfl rfl rfl (P.fieldAddr fa_34_11 rfl) ?_
  refine WL.callo (H' := _) (ent_of Tryz.func210 rfl rfl) rfl rfl rfl (fun w hs => number_r r c q 34 31 x out cs w0 w _ hs hsz (by rw [hcs]; rfl)) ?_
  refine WL.nil_ ?_
  refine End.seq ?_
  refine WC.seq ?_
  refine WC.region ?_
  refine WL.p rfl rfl rfl (P.move rfl) ?_
  refine WL.p rfl rfl rfl (P.move rfl) ?_
  refine WL.p rfl rfl rfl (P.nilCheck rfl) ?_
  refine WL.p rfl rfl rfl (P.fieldAddr fa_34_8 rfl) ?_
  refine WL.callo (H' := _) (ent_of Tryz.func199 rfl rfl) rfl rfl rfl (fun w hs => text_r r c q 34 28 x.num.2 out _ w0 w _ hs (by omega) (by rw [Array.size_setIfInBounds, hcs]; rfl)) ?_
  refine WL.nil_ ?_
  refine End.seq ?_
  refine WC.seq ?_
  refine WC.region ?_
  refine WL.p rfl rfl rfl (P.move rfl) ?_
  refine WL.p rfl rfl rfl (P.move rfl) ?_
  refine WL.p rfl rfl rfl (P.nilCheck rfl) ?_
  refine WL.p rfl rfl rfl (P.fieldAddr fa_34_12 rfl) ?_
  refine WL.p rfl rfl rfl (P.loadO 2 Tryz.isAgg32 rfl rfl h32') ?_
  refine WL.p rfl rfl rfl (P.lenR Tryz.underlying32 rfl) ?_
  refine WL.callo (H' := _) (ent_of Tryz.func263 rfl rfl) rfl rfl rfl (fun w hs => count_r r c (prX x) out 0 8 w0 w _ hs hz4 (by omega)) ?_
  refine WL.p rfl rfl rfl (P.assign rfl) ?_
  refine WL.nil_ ?_
  refine End.seq ?_
  refine WC.seq ?_
  refine WC.seq ?_
  refine WC.region ?_
  refine WL.p rfl rfl rfl (P.move rfl) ?_
  refine WL.p rfl rfl rfl (P.nilCheck rfl) ?_
  refine WL.p rfl rfl rfl (P.fieldAddr fa_155_1 rfl) ?_
  refine WL.p rfl rfl rfl (P.loadO 1 Tryz.isAgg152 rfl rfl rfl) ?_
  refine WL.p rfl rfl rfl (P.neNil Tryz.underlying152 rfl rfl) ?_
  refine WL.p rfl rfl rfl (P.move rfl) ?_
  refine WL.split 29 rfl (fun hs29 => ?_) (fun hs29 => ?_)
  ·
    try simp only [decide_eq_true_eq, decide_eq_false_iff_not, beq_iff_eq, beq_eq_false_iff_ne, bne_iff_ne, bne_eq_false_iff_eq, Bool.not_eq_true', Bool.not_eq_false', ne_eq, Int.not_lt, Int.not_le] at hs29
    refine WL.p rfl rfl rfl (P.move rfl) ?_
    refine WL.p rfl rfl rfl (P.cmp rfl rfl rfl) ?_
    refine WL.p rfl rfl rfl (P.pickT rfl rfl) ?_
    refine WL.nil_ ?_
    refine End.seq ?_
    refine WC.cond rfl (fun hc32 => ?_) (fun hc32 => ?_)
    ·
      try simp only [decide_eq_true_eq, decide_eq_false_iff_not, beq_iff_eq, beq_eq_false_iff_ne, bne_iff_ne, bne_eq_false_iff_eq, Bool.not_eq_true', Bool.not_eq_false', ne_eq, Int.not_lt, Int.not_le] at hc32
      refine WC.region ?_
      refine WL.p rfl rfl rfl (P.move rfl) ?_
      refine WL.p rfl rfl rfl (P.move rfl) ?_
      refine WL.is 34 rfl (congrArg (Value.int .i64) (show cntR 8 (prX x) = ((prN x : Nat) : Int) from by unfold prN; omega)) ?_
      refine WL.make el32 rfl rfl rfl rfl (by unfold prN; omega) (by unfold prN; omega) (fun b35 => ?_)
      refine WL.p rfl rfl rfl (P.nilCheck rfl) ?_
      refine WL.p rfl rfl rfl (P.fieldAddr fa_34_12 rfl) ?_
      refine WL.store 3 Tryz.sizeOf32 rfl rfl rfl rfl rfl (by rw [Array.size_setIfInBounds, Array.size_setIfInBounds, hcs]; rfl) ?_
      refine WL.nil_ ?_
      refine End.seq ?_
      refine WC.seq ?_
      refine WC.region ?_
      refine WL.conv (H' := rdB r (prX x).num.2 :: cB c out (some ⟨r, 0, none⟩) :: .blk b35 51 (growC [] (prN x)) :: .blk q 34 (prC cs x (.slice (some ⟨b35, 0, none⟩) (prN x) (prN x))) :: H) (fun w hs => by have := hs.rot3; rw [show madeCells (Value.agg #[Value.string { data := #[] }, Value.bool false, Value.int IntKind.i64 0]).cells (prN x * 3) = (zrow (prN x)).toArray from made_zrow _] at this; exact this) ?_
      refine WL.p rfl rfl rfl (P.move rfl) ?_
      refine WL.p rfl rfl rfl (P.nilCheck rfl) ?_
      refine WL.p rfl rfl rfl (P.fieldAddr fa_34_12 rfl) ?_
      refine WL.p rfl rfl rfl (P.loadO 3 Tryz.isAgg32 rfl rfl (by unfold prC; rw [Array.getElem?_setIfInBounds_self_of_lt (by rw [Array.size_setIfInBounds, Array.size_setIfInBounds, hcs]; decide)])) ?_
      refine WL.p rfl rfl rfl (P.lenR Tryz.underlying32 rfl) ?_
      refine WL.p rfl rfl rfl (P.move rfl) ?_
      refine WL.nil_ ?_
      refine End.seq ?_
      refine WC.block ?_
      refine WC.loopD (σ := Nat) (fun k => [(43, .int .i64 (k : Nat))]) (fun k => (rdB r (gRead (prX x).num.2 k).2 :: cB c out (some ⟨r, 0, none⟩) :: .blk b35 51 (growC (gRead (prX x).num.2 k).1 (prN x)) :: .blk q 34 (prC cs x (.slice (some ⟨b35, 0, none⟩) (prN x) (prN x))) :: H)) (fun k => k ≤ prN x) (fun k => prN x - k) 0 (Nat.zero_le _) (Env.sub_cons rfl (Env.sub_nil)) (List.range _) selOk_range (sel_range.trans rfl) ?_
      rintro k hk
      refine WC.seq ?_
      refine WC.region ?_
      refine WL.p rfl rfl rfl (P.cmp rfl rfl rfl) ?_
      refine WL.nil_ ?_
      refine End.seq ?_
      refine WC.seq ?_
      refine WC.cond rfl (fun hc44 => ?_) (fun hc44 => ?_)
      ·
        try simp only [decide_eq_true_eq, decide_eq_false_iff_not, beq_iff_eq, beq_eq_false_iff_ne, bne_iff_ne, bne_eq_false_iff_eq, Bool.not_eq_true', Bool.not_eq_false', ne_eq, Int.not_lt, Int.not_le] at hc44
        have hzk := gRead_size (prX x).num.2 k
        have hlk := gRead_len (prX x).num.2 k
        have hzk2 := Rd.text_size (gRead (prX x).num.2 k).2 200
        have hzk3 := Rd.bool_size ((gRead (prX x).num.2 k).2.text 200).2
        refine WC.skip ?_
        refine End.seq ?_
        refine WC.seq ?_
        refine WC.block ?_
        refine WC.seq ?_
        refine WC.region ?_
        refine WL.p rfl rfl rfl (P.move rfl) ?_
        refine WL.p rfl rfl rfl (P.assign rfl) ?_
        refine WL.nil_ ?_
        refine End.seq ?_
        refine WC.seq ?_
        refine WC.region ?_
        refine WL.p rfl rfl rfl (P.move rfl) ?_
        refine WL.p rfl rfl rfl (P.nilCheck rfl) ?_
        refine WL.p rfl rfl rfl (P.fieldAddr fa_34_12 rfl) ?_
        refine WL.p rfl rfl rfl (P.loadO 3 Tryz.isAgg32 rfl rfl (by unfold prC; rw [Array.getElem?_setIfInBounds_self_of_lt (by rw [Array.size_setIfInBounds, Array.size_setIfInBounds, hcs]; decide)])) ?_
        refine WL.p rfl rfl rfl (P.move rfl) ?_
        refine WL.p rfl rfl rfl (P.elemAddr Tryz.underlying32 Tryz.sizeOf51 rfl rfl (by omega) (by omega)) ?_
        refine WL.p rfl rfl rfl (P.assign rfl) ?_
        refine WL.nil_ ?_
        refine End.seq ?_
        refine WC.seq ?_
        refine WC.region ?_
        refine WL.p rfl rfl rfl (P.move rfl) ?_
        refine WL.p rfl rfl rfl (P.move rfl) ?_
        refine WL.p rfl rfl rfl (P.nilCheck rfl) ?_
        refine WL.p rfl rfl rfl (P.fieldAddr fa_51_0 rfl) ?_
        refine WL.callo (H' := _) (ent_of Tryz.func199 rfl rfl) rfl rfl rfl (fun w hs => text_r r c b35 51 _ (gRead (prX x).num.2 k).2 out _ w0 w _ hs (by omega) (by rw [growC_size _ _ (by omega)]; rw [Nat.blt_eq]; omega)) ?_
        refine WL.nil_ ?_
        refine End.seq ?_
        refine WC.seq ?_
        refine WC.region ?_
        refine WL.p rfl rfl rfl (P.move rfl) ?_
        refine WL.p rfl rfl rfl (P.move rfl) ?_
        refine WL.p rfl rfl rfl (P.nilCheck rfl) ?_
        refine WL.p rfl rfl rfl (P.fieldAddr fa_51_1 rfl) ?_
        refine WL.callo (H' := _) (ent_of Tryz.func198 rfl rfl) rfl rfl rfl (fun w hs => truth_r r c b35 51 _ _ out _ w0 w _ hs (by omega) (by rw [Array.size_setIfInBounds, growC_size _ _ (by omega)]; rw [Nat.blt_eq]; omega)) ?_
        refine WL.nil_ ?_
        refine End.seq ?_
        refine WC.region ?_
        refine WL.p rfl rfl rfl (P.move rfl) ?_
        refine WL.p rfl rfl rfl (P.move rfl) ?_
        refine WL.p rfl rfl rfl (P.nilCheck rfl) ?_
        refine WL.p rfl rfl rfl (P.fieldAddr fa_51_2 rfl) ?_
        refine WL.callo (H' := _) (ent_of Tryz.func210 rfl rfl) rfl rfl rfl (fun w hs => number_r r c b35 51 _ _ out _ w0 w _ hs (by omega) (by rw [Array.size_setIfInBounds, Array.size_setIfInBounds, growC_size _ _ (by omega)]; rw [Nat.blt_eq]; omega)) ?_
        refine WL.nil_ ?_
        refine End.blkN ?_
        refine End.seq ?_
        refine WC.region ?_
        refine WL.p rfl rfl rfl (P.ari64 rfl rfl rfl (by omega)) ?_
        refine WL.p rfl rfl rfl (P.move rfl) ?_
        refine WL.nil_ ?_
        refine End.againD (k + 1) ?_ ?_ rfl (Env.sub_cons rfl (Env.sub_nil)) rfl (List.range _) selOk_range (sel_range.trans (by rw [show 0 + ((k : Nat) : Int).toNat * 3 + 0 = 3 * k by omega, show 0 + ((k : Nat) : Int).toNat * 3 + 1 = 3 * k + 1 by omega, show 0 + ((k : Nat) : Int).toNat * 3 + 2 = 3 * k + 2 by omega, growC_set _ _ _ hlk (by omega)]; rfl))
        · show k + 1 ≤ prN x; omega
        · omega
      ·
        try simp only [decide_eq_true_eq, decide_eq_false_iff_not, beq_iff_eq, beq_eq_false_iff_ne, bne_iff_ne, bne_eq_false_iff_eq, Bool.not_eq_true', Bool.not_eq_false', ne_eq, Int.not_lt, Int.not_le] at hc44
        refine WC.exit ?_
        refine End.thenX ?_
        refine End.thenX ?_
        refine End.blkX ?_
        refine End.norm ?_
        refine End.ret0 rfl ?_
        have ek : k = prN x := by omega
        refine fun w' hs' => ⟨b35, rfl, ?_⟩
        have e1 : (prG x).1.length = prN x := gRead_len _ _
        have e2 : gIt b35 (prG x).1 = .blk b35 51 (growC (gRead (prX x).num.2 k).1 (prN x)) := by rw [gIt, if_neg (by rw [e1]; unfold prN; omega), ← growC_full, e1, ek]; rfl
        have e3 : gVal b35 (prN x) = .slice (some ⟨b35, 0, none⟩) (prN x) (prN x) := by rw [gVal, if_neg (by unfold prN; omega)]
        rw [e2, e3, prG, ← ek]
        rw [← ek] at hs'
        exact hs'
    ·
      try simp only [decide_eq_true_eq, decide_eq_false_iff_not, beq_iff_eq, beq_eq_false_iff_ne, bne_iff_ne, bne_eq_false_iff_eq, Bool.not_eq_true', Bool.not_eq_false', ne_eq, Int.not_lt, Int.not_le] at hc32
      refine WC.skip ?_
      refine End.seq ?_
      refine WC.seq ?_
      refine WC.region ?_
      refine WL.p rfl rfl rfl (P.move rfl) ?_
      refine WL.p rfl rfl rfl (P.nilCheck rfl) ?_
      refine WL.p rfl rfl rfl (P.fieldAddr fa_34_12 rfl) ?_
      refine WL.p rfl rfl rfl (P.loadO 2 Tryz.isAgg32 rfl rfl h32') ?_
      refine WL.p rfl rfl rfl (P.lenR Tryz.underlying32 rfl) ?_
      refine WL.p rfl rfl rfl (P.move rfl) ?_
      refine WL.nil_ ?_
      refine End.seq ?_
      refine WC.block ?_
      refine WC.loopD (σ := Nat) (fun k => [(43, .int .i64 (k : Nat))]) (fun k => (rdB r (prX x).num.2 :: cB c out (some ⟨r, 0, none⟩) :: .blk q 34 ((cs.setIfInBounds 31 (.int .i64 (clampN x.num.1))).setIfInBounds 28 (.string (x.num.2.text 200).1)) :: H)) (fun k => k = 0) (fun k => 0) 0 rfl (Env.sub_cons rfl (Env.sub_nil)) (List.range _) selOk_range (sel_range.trans rfl) ?_
      rintro k hk
      refine WC.seq ?_
      refine WC.region ?_
      refine WL.p rfl rfl rfl (P.cmp rfl rfl rfl) ?_
      refine WL.nil_ ?_
      refine End.seq ?_
      refine WC.seq ?_
      refine WC.cond rfl (fun hc44 => ?_) (fun hc44 => ?_)
      ·
        try simp only [decide_eq_true_eq, decide_eq_false_iff_not, beq_iff_eq, beq_eq_false_iff_ne, bne_iff_ne, bne_eq_false_iff_eq, Bool.not_eq_true', Bool.not_eq_false', ne_eq, Int.not_lt, Int.not_le] at hc44
        exact absurd hc44 (by omega)
      ·
        try simp only [decide_eq_true_eq, decide_eq_false_iff_not, beq_iff_eq, beq_eq_false_iff_ne, bne_iff_ne, bne_eq_false_iff_eq, Bool.not_eq_true', Bool.not_eq_false', ne_eq, Int.not_lt, Int.not_le] at hc44
        refine WC.exit ?_
        refine End.thenX ?_
        refine End.thenX ?_
        refine End.blkX ?_
        refine End.norm ?_
        refine End.ret0 rfl ?_
        have en : prN x = 0 := by unfold prN; omega
        refine fun w' hs' => ⟨0, rfl, ?_⟩
        have e1 : prG x = ([], (prX x).num.2) := by rw [prG, en]; rfl
        rw [e1, en, gVal, if_pos rfl, prC, set_same h32']
        exact hs'.nil.rot3
  ·
    try simp only [decide_eq_true_eq, decide_eq_false_iff_not, beq_iff_eq, beq_eq_false_iff_ne, bne_iff_ne, bne_eq_false_iff_eq, Bool.not_eq_true', Bool.not_eq_false', ne_eq, Int.not_lt, Int.not_le] at hs29
    cases hs29

end Go.Proofs.YtlkkiimmangplaaGreatDoor
