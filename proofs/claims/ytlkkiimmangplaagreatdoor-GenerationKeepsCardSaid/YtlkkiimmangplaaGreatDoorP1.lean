/- Entries compared; the fields that are used. -/
import Derived.Test.YtlkkiimmangplaaGreatDoorC
import Derived.Test.YtlkkiimmangplaaGreatDoorO
namespace Go.Proofs.YtlkkiimmangplaaGreatDoor
open Go.RowKit
set_option linter.unusedVariables false
set_option linter.unusedSimpArgs false

def DS.zero : DS := ⟨0, 0, 0, 0, 0, 0, 0, 0, 0, 0, 0, 0, 0, 0, false, 0, ⟨#[]⟩, ⟨#[]⟩, 0, 0, false⟩
def E.zero : E := { kind := 0, name := ⟨#[]⟩, ds := DS.zero, alt := [], used := 0, limit := 0, last := 0, empty := false, owner := ⟨#[]⟩, target := ⟨#[]⟩, catalog := 0, level := 0, grants := [] }
/-- The fields that an entry's kind uses. -/
def E.uses (e : E) : E :=
  if e.kind = 0 then { E.zero with kind := e.kind, name := e.name, ds := e.ds, alt := e.alt, used := e.used } else
  if e.kind = 1 then { E.zero with kind := e.kind, name := e.name, limit := e.limit, last := e.last, empty := e.empty, owner := e.owner } else
  if e.kind = 2 then { E.zero with kind := e.kind, name := e.name, target := e.target } else
  if e.kind = 3 then { E.zero with kind := e.kind, name := e.name, catalog := e.catalog } else
  if e.kind = 4 then { E.zero with kind := e.kind, name := e.name, level := e.level, owner := e.owner, grants := e.grants } else { E.zero with kind := e.kind, name := e.name }
def vnil : Value := .slice none 0 0
theorem E.ds_get (e : E) (va vg : Value) : ∀ j, j < 21 → (e.cells va vg)[2 + j]? = e.ds.cells[j]? := by
  intro j hj
  have h : j = 0 ∨ j = 1 ∨ j = 2 ∨ j = 3 ∨ j = 4 ∨ j = 5 ∨ j = 6 ∨ j = 7 ∨ j = 8 ∨ j = 9 ∨ j = 10 ∨ j = 11 ∨ j = 12 ∨ j = 13 ∨ j = 14 ∨ j = 15 ∨ j = 16 ∨ j = 17 ∨ j = 18 ∨ j = 19 ∨ j = 20 := by omega
  rcases h with rfl | rfl | rfl | rfl | rfl | rfl | rfl | rfl | rfl | rfl | rfl | rfl | rfl | rfl | rfl | rfl | rfl | rfl | rfl | rfl | rfl <;> rfl

set_option maxRecDepth 100000 in
theorem used_any (e : E) (A A' : Option Addr) (m c m' c' : Nat) (w : World) :
    Calls Tryz.prog 116 #[.agg (e.cells (.slice A m c) (.slice A' m' c'))] w (RetV w (.agg (e.uses.cells (if e.kind = 0 then .slice A m c else vnil) (if e.kind = 4 then .slice A' m' c' else vnil)))) := by
  refine enter Tryz.func116 rfl Tryz.ntmps116 rfl ?_
  refine WC.seq ?_
  refine WC.region ?_
  refine WL.box rfl rfl rfl (fun b1 => ?_)
  refine WL.alloc Tryz.zeroValue34 rfl rfl (fun b2 => ?_)
  refine WL.nil_ ?_
  refine End.seq ?_
  refine WC.seq ?_
  refine WC.region ?_
  refine WL.p rfl rfl rfl (P.fieldAddr fa_34_0 rfl) ?_
  refine WL.p rfl rfl rfl (P.loadO 1 Tryz.isAgg3 rfl rfl rfl) ?_
  refine WL.p rfl rfl rfl (P.fieldAddr fa_34_1 rfl) ?_
  refine WL.p rfl rfl rfl (P.loadO 1 Tryz.isAgg9 rfl rfl rfl) ?_
  refine WL.p rfl rfl rfl (P.build rfl (fun w => bo_34 Tryz.zeroValue34 (cs := #[_, _, _, _, _, _, _, _, _, _, _, _, _, _, _, _, _, _, _, _, _, _, _, _, _, _, _, _, _, _, _, _, _]) rfl rfl w)) ?_
  refine WL.alloc Tryz.zeroValue34 rfl rfl (fun b3 => ?_)
  refine WL.storeW 0 Tryz.sizeOf34 rfl rfl rfl rfl rfl rfl rfl ?_
  refine WL.nil_ ?_
  refine End.seq ?_
  refine WC.seq ?_
  refine WC.seq ?_
  refine WC.region ?_
  refine WL.p rfl rfl rfl (P.fieldAddr fa_34_0 rfl) ?_
  refine WL.p rfl rfl rfl (P.loadO 2 Tryz.isAgg3 rfl rfl rfl) ?_
  refine WL.nil_ ?_
  refine End.seq ?_
  refine WC.block ?_
  refine WC.seq ?_
  refine WC.region ?_
  refine WL.p rfl rfl rfl (P.cmp rfl rfl rfl) ?_
  refine WL.p rfl rfl rfl (P.assign rfl) ?_
  refine WL.nil_ ?_
  refine End.seq ?_
  refine WC.cond rfl (fun hc11 => ?_) (fun hc11 => ?_)
  ·
    try simp only [decide_eq_true_eq, decide_eq_false_iff_not, beq_iff_eq, beq_eq_false_iff_ne, bne_iff_ne, bne_eq_false_iff_eq, Bool.not_eq_true', Bool.not_eq_false', ne_eq, Int.not_lt, Int.not_le] at hc11
    apply WC.draws (al := []) (vs := [_, _, _, _, _, _, _, fun _ => undef, _, fun _ => undef, _, fun _ => undef]) (Hs := fun v HH b s => (blay [(b 7, 2, 21, (cellsOf (v 1 s)).toList), (b 9, 23, 1, [v 3 s]), (b 11, 24, 1, [v 5 s])] HH 0)) (by kernel_rfl) (by kernel_rfl) (by kernel_rfl)
    case steps =>
      refine Stps.cons (Stp.p (fun b s hd => ⟨_, ⟨rfl, P.fieldAddr fa_34_2 rfl⟩, rfl, rfl⟩)) ?_
      refine Stps.cons (Stp.p (fun b s hd => ⟨_, ⟨rfl, P.loadA 2 (vs := e.ds.cells) Tryz.isAgg31 Tryz.sizeOf31 rfl rfl rfl (E.ds_get e _ _)⟩, rfl, rfl⟩)) ?_
      refine Stps.cons (Stp.p (fun b s hd => ⟨_, ⟨rfl, P.fieldAddr fa_34_3 rfl⟩, rfl, rfl⟩)) ?_
      refine Stps.cons (Stp.p (fun b s hd => ⟨_, ⟨rfl, P.loadO 2 Tryz.isAgg22 rfl rfl rfl⟩, rfl, rfl⟩)) ?_
      refine Stps.cons (Stp.p (fun b s hd => ⟨_, ⟨rfl, P.fieldAddr fa_34_4 rfl⟩, rfl, rfl⟩)) ?_
      refine Stps.cons (Stp.p (fun b s hd => ⟨_, ⟨rfl, P.loadO 2 Tryz.isAgg3 rfl rfl rfl⟩, rfl, rfl⟩)) ?_
      refine Stps.cons (Stp.p (fun b s hd => ⟨_, ⟨rfl, P.fieldAddr fa_34_2 rfl⟩, rfl, rfl⟩)) ?_
      refine Stps.cons (Stp.storeA 0 0 Tryz.sizeOf31 (fun b s hd => ⟨true, _, _, _, _, _, _, rfl, rfl, rfl, rfl, rfl, rfl, rfl, rfl, rfl, rfl, rfl, rfl⟩)) ?_
      refine Stps.cons (Stp.p (fun b s hd => ⟨_, ⟨rfl, P.fieldAddr fa_34_3 rfl⟩, rfl, rfl⟩)) ?_
      refine Stps.cons (Stp.store 0 1 Tryz.sizeOf22 (fun b s hd => ⟨true, _, _, _, _, _, _, rfl, rfl, rfl, rfl, rfl, rfl, rfl, rfl, rfl, rfl, rfl⟩)) ?_
      refine Stps.cons (Stp.p (fun b s hd => ⟨_, ⟨rfl, P.fieldAddr fa_34_4 rfl⟩, rfl, rfl⟩)) ?_
      refine Stps.cons (Stp.store 0 2 Tryz.sizeOf3 (fun b s hd => ⟨true, _, _, _, _, _, _, rfl, rfl, rfl, rfl, rfl, rfl, rfl, rfl, rfl, rfl, rfl⟩)) ?_
      exact Stps.nil
    case h0 => exact fun s => rfl
    case agree => exact AgrAll.nil
    intro s4
    refine End.shape (ρ' := [(0, _), (1, _), (2, _), (3, _), (4, _), (5, _), (6, _), (7, _), (8, _), (9, _), (10, _), (11, _), (12, _), (13, _), (14, _), (15, _), (16, _), (17, _), (18, _), (19, _), (20, _), (21, _)]) (H' := [.blk _ _ #[_, _, _, _, _, _, _, _, _, _, _, _, _, _, _, _, _, _, _, _, _, _, _, _, _, _, _, _, _, _, _, _, _], _, _]) (Env.sub_cons rfl (Env.sub_cons rfl (Env.sub_cons rfl (Env.sub_cons rfl (Env.sub_cons rfl (Env.sub_cons rfl (Env.sub_cons rfl (Env.sub_cons rfl (Env.sub_cons rfl (Env.sub_cons rfl (Env.sub_cons rfl (Env.sub_cons rfl (Env.sub_cons rfl (Env.sub_cons rfl (Env.sub_cons rfl (Env.sub_cons rfl (Env.sub_cons rfl (Env.sub_cons rfl (Env.sub_cons rfl (Env.sub_cons rfl (Env.sub_cons rfl (Env.sub_cons rfl (Env.sub_nil))))))))))))))))))))))) rfl ?_
    refine End.blkN ?_
    refine End.seq ?_
    refine WC.seq ?_
    refine WC.region ?_
    refine WL.p rfl rfl rfl (P.loadW 0 Tryz.isAgg34 Tryz.sizeOf34 rfl rfl rfl) ?_
    refine WL.storeW 1 Tryz.sizeOf34 rfl rfl rfl rfl rfl rfl rfl ?_
    refine WL.nil_ ?_
    refine End.seq ?_
    refine WC.ret ?_
    refine End.retC 1 rfl Tryz.isAgg34 Tryz.sizeOf34 rfl rfl rfl ?_
    exact fun w' hs' => RetV.of (by rw [E.uses, if_pos hc11, if_pos (show e.kind = 0 from by omega), if_neg (show ¬ e.kind = 4 from by omega)]; rfl) hs'
  ·
    try simp only [decide_eq_true_eq, decide_eq_false_iff_not, beq_iff_eq, beq_eq_false_iff_ne, bne_iff_ne, bne_eq_false_iff_eq, Bool.not_eq_true', Bool.not_eq_false', ne_eq, Int.not_lt, Int.not_le] at hc11
    refine WC.seq ?_
    refine WC.region ?_
    refine WL.p rfl rfl rfl (P.cmp rfl rfl rfl) ?_
    refine WL.p rfl rfl rfl (P.assign rfl) ?_
    refine WL.nil_ ?_
    refine End.seq ?_
    refine WC.cond rfl (fun hc22 => ?_) (fun hc22 => ?_)
    ·
      try simp only [decide_eq_true_eq, decide_eq_false_iff_not, beq_iff_eq, beq_eq_false_iff_ne, bne_iff_ne, bne_eq_false_iff_eq, Bool.not_eq_true', Bool.not_eq_false', ne_eq, Int.not_lt, Int.not_le] at hc22
      apply WC.draws (al := []) (vs := [_, _, _, _, _, _, _, _, _, fun _ => undef, _, fun _ => undef, _, fun _ => undef, _, fun _ => undef]) (Hs := fun v HH b s => (blay [(b 9, 25, 1, [v 1 s]), (b 11, 26, 1, [v 3 s]), (b 13, 27, 1, [v 5 s]), (b 15, 28, 1, [v 7 s])] HH 0)) (by kernel_rfl) (by kernel_rfl) (by kernel_rfl)
      case steps =>
        refine Stps.cons (Stp.p (fun b s hd => ⟨_, ⟨rfl, P.fieldAddr fa_34_5 rfl⟩, rfl, rfl⟩)) ?_
        refine Stps.cons (Stp.p (fun b s hd => ⟨_, ⟨rfl, P.loadO 2 Tryz.isAgg3 rfl rfl rfl⟩, rfl, rfl⟩)) ?_
        refine Stps.cons (Stp.p (fun b s hd => ⟨_, ⟨rfl, P.fieldAddr fa_34_6 rfl⟩, rfl, rfl⟩)) ?_
        refine Stps.cons (Stp.p (fun b s hd => ⟨_, ⟨rfl, P.loadO 2 Tryz.isAgg3 rfl rfl rfl⟩, rfl, rfl⟩)) ?_
        refine Stps.cons (Stp.p (fun b s hd => ⟨_, ⟨rfl, P.fieldAddr fa_34_7 rfl⟩, rfl, rfl⟩)) ?_
        refine Stps.cons (Stp.p (fun b s hd => ⟨_, ⟨rfl, P.loadO 2 Tryz.isAgg4 rfl rfl rfl⟩, rfl, rfl⟩)) ?_
        refine Stps.cons (Stp.p (fun b s hd => ⟨_, ⟨rfl, P.fieldAddr fa_34_8 rfl⟩, rfl, rfl⟩)) ?_
        refine Stps.cons (Stp.p (fun b s hd => ⟨_, ⟨rfl, P.loadO 2 Tryz.isAgg9 rfl rfl rfl⟩, rfl, rfl⟩)) ?_
        refine Stps.cons (Stp.p (fun b s hd => ⟨_, ⟨rfl, P.fieldAddr fa_34_5 rfl⟩, rfl, rfl⟩)) ?_
        refine Stps.cons (Stp.store 0 0 Tryz.sizeOf3 (fun b s hd => ⟨true, _, _, _, _, _, _, rfl, rfl, rfl, rfl, rfl, rfl, rfl, rfl, rfl, rfl, rfl⟩)) ?_
        refine Stps.cons (Stp.p (fun b s hd => ⟨_, ⟨rfl, P.fieldAddr fa_34_6 rfl⟩, rfl, rfl⟩)) ?_
        refine Stps.cons (Stp.store 0 1 Tryz.sizeOf3 (fun b s hd => ⟨true, _, _, _, _, _, _, rfl, rfl, rfl, rfl, rfl, rfl, rfl, rfl, rfl, rfl, rfl⟩)) ?_
        refine Stps.cons (Stp.p (fun b s hd => ⟨_, ⟨rfl, P.fieldAddr fa_34_7 rfl⟩, rfl, rfl⟩)) ?_
        refine Stps.cons (Stp.store 0 2 Tryz.sizeOf4 (fun b s hd => ⟨true, _, _, _, _, _, _, rfl, rfl, rfl, rfl, rfl, rfl, rfl, rfl, rfl, rfl, rfl⟩)) ?_
        refine Stps.cons (Stp.p (fun b s hd => ⟨_, ⟨rfl, P.fieldAddr fa_34_8 rfl⟩, rfl, rfl⟩)) ?_
        refine Stps.cons (Stp.store 0 3 Tryz.sizeOf9 (fun b s hd => ⟨true, _, _, _, _, _, _, rfl, rfl, rfl, rfl, rfl, rfl, rfl, rfl, rfl, rfl, rfl⟩)) ?_
        exact Stps.nil
      case h0 => exact fun s => rfl
      case agree => exact AgrAll.nil
      intro s6
      refine End.shape (ρ' := [(0, _), (1, _), (2, _), (3, _), (4, _), (5, _), (6, _), (7, _), (8, _), (9, _), (10, _), (11, _), (12, _), (22, _), (23, _), (24, _), (25, _), (26, _), (27, _), (28, _), (29, _), (30, _), (31, _), (32, _), (33, _), (34, _), (35, _)]) (H' := [.blk _ _ #[_, _, _, _, _, _, _, _, _, _, _, _, _, _, _, _, _, _, _, _, _, _, _, _, _, _, _, _, _, _, _, _, _], _, _]) (Env.sub_cons rfl (Env.sub_cons rfl (Env.sub_cons rfl (Env.sub_cons rfl (Env.sub_cons rfl (Env.sub_cons rfl (Env.sub_cons rfl (Env.sub_cons rfl (Env.sub_cons rfl (Env.sub_cons rfl (Env.sub_cons rfl (Env.sub_cons rfl (Env.sub_cons rfl (Env.sub_cons rfl (Env.sub_cons rfl (Env.sub_cons rfl (Env.sub_cons rfl (Env.sub_cons rfl (Env.sub_cons rfl (Env.sub_cons rfl (Env.sub_cons rfl (Env.sub_cons rfl (Env.sub_cons rfl (Env.sub_cons rfl (Env.sub_cons rfl (Env.sub_cons rfl (Env.sub_cons rfl (Env.sub_nil)))))))))))))))))))))))))))) rfl ?_
      refine End.blkN ?_
      refine End.seq ?_
      refine WC.seq ?_
      refine WC.region ?_
      refine WL.p rfl rfl rfl (P.loadW 0 Tryz.isAgg34 Tryz.sizeOf34 rfl rfl rfl) ?_
      refine WL.storeW 1 Tryz.sizeOf34 rfl rfl rfl rfl rfl rfl rfl ?_
      refine WL.nil_ ?_
      refine End.seq ?_
      refine WC.ret ?_
      refine End.retC 1 rfl Tryz.isAgg34 Tryz.sizeOf34 rfl rfl rfl ?_
      exact fun w' hs' => RetV.of (by rw [E.uses, if_neg hc11, if_pos hc22, if_neg (show ¬ e.kind = 0 from by omega), if_neg (show ¬ e.kind = 4 from by omega)]; rfl) hs'
    ·
      try simp only [decide_eq_true_eq, decide_eq_false_iff_not, beq_iff_eq, beq_eq_false_iff_ne, bne_iff_ne, bne_eq_false_iff_eq, Bool.not_eq_true', Bool.not_eq_false', ne_eq, Int.not_lt, Int.not_le] at hc22
      refine WC.seq ?_
      refine WC.region ?_
      refine WL.p rfl rfl rfl (P.cmp rfl rfl rfl) ?_
      refine WL.p rfl rfl rfl (P.assign rfl) ?_
      refine WL.nil_ ?_
      refine End.seq ?_
      refine WC.cond rfl (fun hc36 => ?_) (fun hc36 => ?_)
      ·
        try simp only [decide_eq_true_eq, decide_eq_false_iff_not, beq_iff_eq, beq_eq_false_iff_ne, bne_iff_ne, bne_eq_false_iff_eq, Bool.not_eq_true', Bool.not_eq_false', ne_eq, Int.not_lt, Int.not_le] at hc36
        refine WC.region ?_
        refine WL.p rfl rfl rfl (P.fieldAddr fa_34_9 rfl) ?_
        refine WL.p rfl rfl rfl (P.loadO 2 Tryz.isAgg9 rfl rfl rfl) ?_
        refine WL.p rfl rfl rfl (P.fieldAddr fa_34_9 rfl) ?_
        refine WL.store 0 Tryz.sizeOf9 rfl rfl rfl rfl rfl rfl ?_
        refine WL.nil_ ?_
        refine End.blkN ?_
        refine End.seq ?_
        refine WC.seq ?_
        refine WC.region ?_
        refine WL.p rfl rfl rfl (P.loadW 0 Tryz.isAgg34 Tryz.sizeOf34 rfl rfl rfl) ?_
        refine WL.storeW 1 Tryz.sizeOf34 rfl rfl rfl rfl rfl rfl rfl ?_
        refine WL.nil_ ?_
        refine End.seq ?_
        refine WC.ret ?_
        refine End.retC 1 rfl Tryz.isAgg34 Tryz.sizeOf34 rfl rfl rfl ?_
        exact fun w' hs' => RetV.of (by rw [E.uses, if_neg hc11, if_neg hc22, if_pos hc36, if_neg (show ¬ e.kind = 0 from by omega), if_neg (show ¬ e.kind = 4 from by omega)]; rfl) hs'
      ·
        try simp only [decide_eq_true_eq, decide_eq_false_iff_not, beq_iff_eq, beq_eq_false_iff_ne, bne_iff_ne, bne_eq_false_iff_eq, Bool.not_eq_true', Bool.not_eq_false', ne_eq, Int.not_lt, Int.not_le] at hc36
        refine WC.seq ?_
        refine WC.region ?_
        refine WL.p rfl rfl rfl (P.cmp rfl rfl rfl) ?_
        refine WL.p rfl rfl rfl (P.assign rfl) ?_
        refine WL.nil_ ?_
        refine End.seq ?_
        refine WC.cond rfl (fun hc41 => ?_) (fun hc41 => ?_)
        ·
          try simp only [decide_eq_true_eq, decide_eq_false_iff_not, beq_iff_eq, beq_eq_false_iff_ne, bne_iff_ne, bne_eq_false_iff_eq, Bool.not_eq_true', Bool.not_eq_false', ne_eq, Int.not_lt, Int.not_le] at hc41
          refine WC.region ?_
          refine WL.p rfl rfl rfl (P.fieldAddr fa_34_10 rfl) ?_
          refine WL.p rfl rfl rfl (P.loadO 2 Tryz.isAgg3 rfl rfl rfl) ?_
          refine WL.p rfl rfl rfl (P.fieldAddr fa_34_10 rfl) ?_
          refine WL.store 0 Tryz.sizeOf3 rfl rfl rfl rfl rfl rfl ?_
          refine WL.nil_ ?_
          refine End.blkN ?_
          refine End.seq ?_
          refine WC.seq ?_
          refine WC.region ?_
          refine WL.p rfl rfl rfl (P.loadW 0 Tryz.isAgg34 Tryz.sizeOf34 rfl rfl rfl) ?_
          refine WL.storeW 1 Tryz.sizeOf34 rfl rfl rfl rfl rfl rfl rfl ?_
          refine WL.nil_ ?_
          refine End.seq ?_
          refine WC.ret ?_
          refine End.retC 1 rfl Tryz.isAgg34 Tryz.sizeOf34 rfl rfl rfl ?_
          exact fun w' hs' => RetV.of (by rw [E.uses, if_neg hc11, if_neg hc22, if_neg hc36, if_pos hc41, if_neg (show ¬ e.kind = 0 from by omega), if_neg (show ¬ e.kind = 4 from by omega)]; rfl) hs'
        ·
          try simp only [decide_eq_true_eq, decide_eq_false_iff_not, beq_iff_eq, beq_eq_false_iff_ne, bne_iff_ne, bne_eq_false_iff_eq, Bool.not_eq_true', Bool.not_eq_false', ne_eq, Int.not_lt, Int.not_le] at hc41
          refine WC.seq ?_
          refine WC.region ?_
          refine WL.p rfl rfl rfl (P.cmp rfl rfl rfl) ?_
          refine WL.p rfl rfl rfl (P.assign rfl) ?_
          refine WL.nil_ ?_
          refine End.seq ?_
          refine WC.cond rfl (fun hc46 => ?_) (fun hc46 => ?_)
          ·
            try simp only [decide_eq_true_eq, decide_eq_false_iff_not, beq_iff_eq, beq_eq_false_iff_ne, bne_iff_ne, bne_eq_false_iff_eq, Bool.not_eq_true', Bool.not_eq_false', ne_eq, Int.not_lt, Int.not_le] at hc46
            apply WC.draws (al := []) (vs := [_, _, _, _, _, _, _, fun _ => undef, _, fun _ => undef, _, fun _ => undef]) (Hs := fun v HH b s => (blay [(b 7, 31, 1, [v 1 s]), (b 9, 28, 1, [v 3 s]), (b 11, 32, 1, [v 5 s])] HH 0)) (by kernel_rfl) (by kernel_rfl) (by kernel_rfl)
            case steps =>
              refine Stps.cons (Stp.p (fun b s hd => ⟨_, ⟨rfl, P.fieldAddr fa_34_11 rfl⟩, rfl, rfl⟩)) ?_
              refine Stps.cons (Stp.p (fun b s hd => ⟨_, ⟨rfl, P.loadO 2 Tryz.isAgg3 rfl rfl rfl⟩, rfl, rfl⟩)) ?_
              refine Stps.cons (Stp.p (fun b s hd => ⟨_, ⟨rfl, P.fieldAddr fa_34_8 rfl⟩, rfl, rfl⟩)) ?_
              refine Stps.cons (Stp.p (fun b s hd => ⟨_, ⟨rfl, P.loadO 2 Tryz.isAgg9 rfl rfl rfl⟩, rfl, rfl⟩)) ?_
              refine Stps.cons (Stp.p (fun b s hd => ⟨_, ⟨rfl, P.fieldAddr fa_34_12 rfl⟩, rfl, rfl⟩)) ?_
              refine Stps.cons (Stp.p (fun b s hd => ⟨_, ⟨rfl, P.loadO 2 Tryz.isAgg32 rfl rfl rfl⟩, rfl, rfl⟩)) ?_
              refine Stps.cons (Stp.p (fun b s hd => ⟨_, ⟨rfl, P.fieldAddr fa_34_11 rfl⟩, rfl, rfl⟩)) ?_
              refine Stps.cons (Stp.store 0 0 Tryz.sizeOf3 (fun b s hd => ⟨true, _, _, _, _, _, _, rfl, rfl, rfl, rfl, rfl, rfl, rfl, rfl, rfl, rfl, rfl⟩)) ?_
              refine Stps.cons (Stp.p (fun b s hd => ⟨_, ⟨rfl, P.fieldAddr fa_34_8 rfl⟩, rfl, rfl⟩)) ?_
              refine Stps.cons (Stp.store 0 1 Tryz.sizeOf9 (fun b s hd => ⟨true, _, _, _, _, _, _, rfl, rfl, rfl, rfl, rfl, rfl, rfl, rfl, rfl, rfl, rfl⟩)) ?_
              refine Stps.cons (Stp.p (fun b s hd => ⟨_, ⟨rfl, P.fieldAddr fa_34_12 rfl⟩, rfl, rfl⟩)) ?_
              refine Stps.cons (Stp.store 0 2 Tryz.sizeOf32 (fun b s hd => ⟨true, _, _, _, _, _, _, rfl, rfl, rfl, rfl, rfl, rfl, rfl, rfl, rfl, rfl, rfl⟩)) ?_
              exact Stps.nil
            case h0 => exact fun s => rfl
            case agree => exact AgrAll.nil
            intro s12
            refine End.shape (ρ' := [(0, _), (1, _), (2, _), (3, _), (4, _), (5, _), (6, _), (7, _), (8, _), (9, _), (10, _), (11, _), (12, _), (22, _), (23, _), (36, _), (37, _), (41, _), (42, _), (46, _), (47, _), (48, _), (49, _), (50, _), (51, _), (52, _), (53, _), (54, _), (55, _), (56, _)]) (H' := [.blk _ _ #[_, _, _, _, _, _, _, _, _, _, _, _, _, _, _, _, _, _, _, _, _, _, _, _, _, _, _, _, _, _, _, _, _], _, _]) (Env.sub_cons rfl (Env.sub_cons rfl (Env.sub_cons rfl (Env.sub_cons rfl (Env.sub_cons rfl (Env.sub_cons rfl (Env.sub_cons rfl (Env.sub_cons rfl (Env.sub_cons rfl (Env.sub_cons rfl (Env.sub_cons rfl (Env.sub_cons rfl (Env.sub_cons rfl (Env.sub_cons rfl (Env.sub_cons rfl (Env.sub_cons rfl (Env.sub_cons rfl (Env.sub_cons rfl (Env.sub_cons rfl (Env.sub_cons rfl (Env.sub_cons rfl (Env.sub_cons rfl (Env.sub_cons rfl (Env.sub_cons rfl (Env.sub_cons rfl (Env.sub_cons rfl (Env.sub_cons rfl (Env.sub_cons rfl (Env.sub_cons rfl (Env.sub_cons rfl (Env.sub_nil))))))))))))))))))))))))))))))) rfl ?_
            refine End.blkN ?_
            refine End.seq ?_
            refine WC.seq ?_
            refine WC.region ?_
            refine WL.p rfl rfl rfl (P.loadW 0 Tryz.isAgg34 Tryz.sizeOf34 rfl rfl rfl) ?_
            refine WL.storeW 1 Tryz.sizeOf34 rfl rfl rfl rfl rfl rfl rfl ?_
            refine WL.nil_ ?_
            refine End.seq ?_
            refine WC.ret ?_
            refine End.retC 1 rfl Tryz.isAgg34 Tryz.sizeOf34 rfl rfl rfl ?_
            exact fun w' hs' => RetV.of (by rw [E.uses, if_neg hc11, if_neg hc22, if_neg hc36, if_neg hc41, if_pos hc46, if_neg (show ¬ e.kind = 0 from by omega), if_pos (show e.kind = 4 from by omega)]; rfl) hs'
          ·
            try simp only [decide_eq_true_eq, decide_eq_false_iff_not, beq_iff_eq, beq_eq_false_iff_ne, bne_iff_ne, bne_eq_false_iff_eq, Bool.not_eq_true', Bool.not_eq_false', ne_eq, Int.not_lt, Int.not_le] at hc46
            refine WC.skip ?_
            refine End.blkN ?_
            refine End.seq ?_
            refine WC.seq ?_
            refine WC.region ?_
            refine WL.p rfl rfl rfl (P.loadW 0 Tryz.isAgg34 Tryz.sizeOf34 rfl rfl rfl) ?_
            refine WL.storeW 1 Tryz.sizeOf34 rfl rfl rfl rfl rfl rfl rfl ?_
            refine WL.nil_ ?_
            refine End.seq ?_
            refine WC.ret ?_
            refine End.retC 1 rfl Tryz.isAgg34 Tryz.sizeOf34 rfl rfl rfl ?_
            exact fun w' hs' => RetV.of (by rw [E.uses, if_neg hc11, if_neg hc22, if_neg hc36, if_neg hc41, if_neg hc46, if_neg (show ¬ e.kind = 0 from by omega), if_neg (show ¬ e.kind = 4 from by omega)]; rfl) hs'

theorem toList_ext {a b : ByteArray} (h : a.toList = b.toList) : a = b := toList_inj.1 h
theorem sameL {a b : E} (h0 : a.kind = b.kind) (h1 : a.name.toList = b.name.toList) (h2 : a.ds = b.ds) (h3 : a.alt = b.alt) (h4 : a.used = b.used) (h5 : a.limit = b.limit) (h6 : a.last = b.last) (h7 : a.empty = b.empty) (h8 : a.owner.toList = b.owner.toList) (h9 : a.target.toList = b.target.toList) (h10 : a.catalog = b.catalog) (h11 : a.level = b.level) : decide (a.grants = b.grants) = decide (a = b) := by
  have e1 := toList_inj.1 h1
  have e8 := toList_inj.1 h8
  have e9 := toList_inj.1 h9
  cases a; cases b
  simp only [E.mk.injEq] at *
  simp only [h0, h2, h3, h4, h5, h6, h7, h10, h11, e1, e8, e9, true_and, and_true]

set_option maxRecDepth 100000 in
theorem same_any (a b : E) (va vg ub ug : Value) (w : World) (ha : EntAt w a va vg) (hb : EntAt w b ub ug) :
    Calls Tryz.prog 34 #[.agg (a.cells va vg), .agg (b.cells ub ug)] w (RetV w (.bool (decide (a = b)))) := by
  obtain ⟨⟨A1, c1, rfl, hc1, hr1⟩, ⟨A2, c2, rfl, hc2, hr2⟩⟩ := ha
  obtain ⟨⟨A3, c3, rfl, hc3, hr3⟩, ⟨A4, c4, rfl, hc4, hr4⟩⟩ := hb
  refine enter Tryz.func34 rfl Tryz.ntmps34 rfl ?_
  refine WC.seq ?_
  refine WC.region ?_
  refine WL.box rfl rfl rfl (fun b2 => ?_)
  refine WL.box rfl rfl rfl (fun b3 => ?_)
  refine WL.p rfl rfl rfl (P.assign rfl) ?_
  refine WL.nil_ ?_
  refine End.seq ?_
  refine WC.seq ?_
  refine WC.region ?_
  refine WL.p rfl rfl rfl (P.fieldAddr fa_34_0 rfl) ?_
  refine WL.p rfl rfl rfl (P.loadO 1 Tryz.isAgg3 rfl rfl rfl) ?_
  refine WL.p rfl rfl rfl (P.fieldAddr fa_34_0 rfl) ?_
  refine WL.p rfl rfl rfl (P.loadO 0 Tryz.isAgg3 rfl rfl rfl) ?_
  refine WL.p rfl rfl rfl (P.cmp rfl rfl rfl) ?_
  refine WL.p rfl rfl rfl (P.move rfl) ?_
  refine WL.split 10 rfl (fun hs10 => ?_) (fun hs10 => ?_)
  ·
    try simp only [decide_eq_true_eq, decide_eq_false_iff_not, beq_iff_eq, beq_eq_false_iff_ne, bne_iff_ne, bne_eq_false_iff_eq, Bool.not_eq_true', Bool.not_eq_false', ne_eq, Int.not_lt, Int.not_le] at hs10
    refine WL.p rfl rfl rfl (P.fieldAddr fa_34_1 rfl) ?_
    refine WL.p rfl rfl rfl (P.loadO 1 Tryz.isAgg9 rfl rfl rfl) ?_
    refine WL.p rfl rfl rfl (P.fieldAddr fa_34_1 rfl) ?_
    refine WL.p rfl rfl rfl (P.loadO 0 Tryz.isAgg9 rfl rfl rfl) ?_
    refine WL.p rfl rfl rfl (P.cmps rfl rfl rfl) ?_
    refine WL.p rfl rfl rfl (P.pickT rfl rfl) ?_
    refine WL.p rfl rfl rfl (P.move rfl) ?_
    refine WL.split 17 rfl (fun hs17 => ?_) (fun hs17 => ?_)
    ·
      try simp only [decide_eq_true_eq, decide_eq_false_iff_not, beq_iff_eq, beq_eq_false_iff_ne, bne_iff_ne, bne_eq_false_iff_eq, Bool.not_eq_true', Bool.not_eq_false', ne_eq, Int.not_lt, Int.not_le] at hs17
      refine WL.p rfl rfl rfl (P.fieldAddr fa_34_2 rfl) ?_
      refine WL.p rfl rfl rfl (P.loadA 1 (vs := a.ds.cells) Tryz.isAgg31 Tryz.sizeOf31 rfl rfl rfl (E.ds_get a _ _)) ?_
      refine WL.p rfl rfl rfl (P.fieldAddr fa_34_2 rfl) ?_
      refine WL.p rfl rfl rfl (P.loadA 0 (vs := b.ds.cells) Tryz.isAgg31 Tryz.sizeOf31 rfl rfl rfl (E.ds_get b _ _)) ?_
      refine WL.p rfl rfl rfl (P.eqAgg egt31 rfl rfl (fun w => eq31 _ _ w)) ?_
      refine WL.p rfl rfl rfl (P.pickT rfl rfl) ?_
      refine WL.p rfl rfl rfl (P.move rfl) ?_
      refine WL.split 24 rfl (fun hs24 => ?_) (fun hs24 => ?_)
      ·
        try simp only [decide_eq_true_eq, decide_eq_false_iff_not, beq_iff_eq, beq_eq_false_iff_ne, bne_iff_ne, bne_eq_false_iff_eq, Bool.not_eq_true', Bool.not_eq_false', ne_eq, Int.not_lt, Int.not_le] at hs24
        refine WL.p rfl rfl rfl (P.fieldAddr fa_34_3 rfl) ?_
        refine WL.p rfl rfl rfl (P.loadO 1 Tryz.isAgg22 rfl rfl rfl) ?_
        refine WL.p rfl rfl rfl (P.fieldAddr fa_34_3 rfl) ?_
        refine WL.p rfl rfl rfl (P.loadO 0 Tryz.isAgg22 rfl rfl rfl) ?_
        refine WL.callv (ent_of Tryz.func94 rfl rfl) rfl rfl rfl (fun w hs => eqInts_any _ _ _ _ _ _ w (hr1.st hs) (hr3.st hs)) ?_
        refine WL.p rfl rfl rfl (P.pickT rfl rfl) ?_
        refine WL.p rfl rfl rfl (P.move rfl) ?_
        refine WL.split 31 rfl (fun hs31 => ?_) (fun hs31 => ?_)
        ·
          try simp only [decide_eq_true_eq, decide_eq_false_iff_not, beq_iff_eq, beq_eq_false_iff_ne, bne_iff_ne, bne_eq_false_iff_eq, Bool.not_eq_true', Bool.not_eq_false', ne_eq, Int.not_lt, Int.not_le] at hs31
          refine WL.p rfl rfl rfl (P.fieldAddr fa_34_4 rfl) ?_
          refine WL.p rfl rfl rfl (P.loadO 1 Tryz.isAgg3 rfl rfl rfl) ?_
          refine WL.p rfl rfl rfl (P.fieldAddr fa_34_4 rfl) ?_
          refine WL.p rfl rfl rfl (P.loadO 0 Tryz.isAgg3 rfl rfl rfl) ?_
          refine WL.p rfl rfl rfl (P.cmp rfl rfl rfl) ?_
          refine WL.p rfl rfl rfl (P.pickT rfl rfl) ?_
          refine WL.p rfl rfl rfl (P.move rfl) ?_
          refine WL.split 38 rfl (fun hs38 => ?_) (fun hs38 => ?_)
          ·
            try simp only [decide_eq_true_eq, decide_eq_false_iff_not, beq_iff_eq, beq_eq_false_iff_ne, bne_iff_ne, bne_eq_false_iff_eq, Bool.not_eq_true', Bool.not_eq_false', ne_eq, Int.not_lt, Int.not_le] at hs38
            refine WL.p rfl rfl rfl (P.fieldAddr fa_34_5 rfl) ?_
            refine WL.p rfl rfl rfl (P.loadO 1 Tryz.isAgg3 rfl rfl rfl) ?_
            refine WL.p rfl rfl rfl (P.fieldAddr fa_34_5 rfl) ?_
            refine WL.p rfl rfl rfl (P.loadO 0 Tryz.isAgg3 rfl rfl rfl) ?_
            refine WL.p rfl rfl rfl (P.cmp rfl rfl rfl) ?_
            refine WL.p rfl rfl rfl (P.pickT rfl rfl) ?_
            refine WL.p rfl rfl rfl (P.move rfl) ?_
            refine WL.split 45 rfl (fun hs45 => ?_) (fun hs45 => ?_)
            ·
              try simp only [decide_eq_true_eq, decide_eq_false_iff_not, beq_iff_eq, beq_eq_false_iff_ne, bne_iff_ne, bne_eq_false_iff_eq, Bool.not_eq_true', Bool.not_eq_false', ne_eq, Int.not_lt, Int.not_le] at hs45
              refine WL.p rfl rfl rfl (P.fieldAddr fa_34_6 rfl) ?_
              refine WL.p rfl rfl rfl (P.loadO 1 Tryz.isAgg3 rfl rfl rfl) ?_
              refine WL.p rfl rfl rfl (P.fieldAddr fa_34_6 rfl) ?_
              refine WL.p rfl rfl rfl (P.loadO 0 Tryz.isAgg3 rfl rfl rfl) ?_
              refine WL.p rfl rfl rfl (P.cmp rfl rfl rfl) ?_
              refine WL.p rfl rfl rfl (P.pickT rfl rfl) ?_
              refine WL.p rfl rfl rfl (P.move rfl) ?_
              refine WL.split 52 rfl (fun hs52 => ?_) (fun hs52 => ?_)
              ·
                try simp only [decide_eq_true_eq, decide_eq_false_iff_not, beq_iff_eq, beq_eq_false_iff_ne, bne_iff_ne, bne_eq_false_iff_eq, Bool.not_eq_true', Bool.not_eq_false', ne_eq, Int.not_lt, Int.not_le] at hs52
                refine WL.p rfl rfl rfl (P.fieldAddr fa_34_7 rfl) ?_
                refine WL.p rfl rfl rfl (P.loadO 1 Tryz.isAgg4 rfl rfl rfl) ?_
                refine WL.p rfl rfl rfl (P.fieldAddr fa_34_7 rfl) ?_
                refine WL.p rfl rfl rfl (P.loadO 0 Tryz.isAgg4 rfl rfl rfl) ?_
                refine WL.p rfl rfl rfl (P.eqB Tryz.underlying4 rfl rfl) ?_
                refine WL.p rfl rfl rfl (P.pickT rfl rfl) ?_
                refine WL.p rfl rfl rfl (P.move rfl) ?_
                refine WL.split 59 rfl (fun hs59 => ?_) (fun hs59 => ?_)
                ·
                  try simp only [decide_eq_true_eq, decide_eq_false_iff_not, beq_iff_eq, beq_eq_false_iff_ne, bne_iff_ne, bne_eq_false_iff_eq, Bool.not_eq_true', Bool.not_eq_false', ne_eq, Int.not_lt, Int.not_le] at hs59
                  refine WL.p rfl rfl rfl (P.fieldAddr fa_34_8 rfl) ?_
                  refine WL.p rfl rfl rfl (P.loadO 1 Tryz.isAgg9 rfl rfl rfl) ?_
                  refine WL.p rfl rfl rfl (P.fieldAddr fa_34_8 rfl) ?_
                  refine WL.p rfl rfl rfl (P.loadO 0 Tryz.isAgg9 rfl rfl rfl) ?_
                  refine WL.p rfl rfl rfl (P.cmps rfl rfl rfl) ?_
                  refine WL.p rfl rfl rfl (P.pickT rfl rfl) ?_
                  refine WL.p rfl rfl rfl (P.move rfl) ?_
                  refine WL.split 66 rfl (fun hs66 => ?_) (fun hs66 => ?_)
                  ·
                    try simp only [decide_eq_true_eq, decide_eq_false_iff_not, beq_iff_eq, beq_eq_false_iff_ne, bne_iff_ne, bne_eq_false_iff_eq, Bool.not_eq_true', Bool.not_eq_false', ne_eq, Int.not_lt, Int.not_le] at hs66
                    refine WL.p rfl rfl rfl (P.fieldAddr fa_34_9 rfl) ?_
                    refine WL.p rfl rfl rfl (P.loadO 1 Tryz.isAgg9 rfl rfl rfl) ?_
                    refine WL.p rfl rfl rfl (P.fieldAddr fa_34_9 rfl) ?_
                    refine WL.p rfl rfl rfl (P.loadO 0 Tryz.isAgg9 rfl rfl rfl) ?_
                    refine WL.p rfl rfl rfl (P.cmps rfl rfl rfl) ?_
                    refine WL.p rfl rfl rfl (P.pickT rfl rfl) ?_
                    refine WL.p rfl rfl rfl (P.move rfl) ?_
                    refine WL.split 73 rfl (fun hs73 => ?_) (fun hs73 => ?_)
                    ·
                      try simp only [decide_eq_true_eq, decide_eq_false_iff_not, beq_iff_eq, beq_eq_false_iff_ne, bne_iff_ne, bne_eq_false_iff_eq, Bool.not_eq_true', Bool.not_eq_false', ne_eq, Int.not_lt, Int.not_le] at hs73
                      refine WL.p rfl rfl rfl (P.fieldAddr fa_34_10 rfl) ?_
                      refine WL.p rfl rfl rfl (P.loadO 1 Tryz.isAgg3 rfl rfl rfl) ?_
                      refine WL.p rfl rfl rfl (P.fieldAddr fa_34_10 rfl) ?_
                      refine WL.p rfl rfl rfl (P.loadO 0 Tryz.isAgg3 rfl rfl rfl) ?_
                      refine WL.p rfl rfl rfl (P.cmp rfl rfl rfl) ?_
                      refine WL.p rfl rfl rfl (P.pickT rfl rfl) ?_
                      refine WL.p rfl rfl rfl (P.move rfl) ?_
                      refine WL.split 80 rfl (fun hs80 => ?_) (fun hs80 => ?_)
                      ·
                        try simp only [decide_eq_true_eq, decide_eq_false_iff_not, beq_iff_eq, beq_eq_false_iff_ne, bne_iff_ne, bne_eq_false_iff_eq, Bool.not_eq_true', Bool.not_eq_false', ne_eq, Int.not_lt, Int.not_le] at hs80
                        refine WL.p rfl rfl rfl (P.fieldAddr fa_34_11 rfl) ?_
                        refine WL.p rfl rfl rfl (P.loadO 1 Tryz.isAgg3 rfl rfl rfl) ?_
                        refine WL.p rfl rfl rfl (P.fieldAddr fa_34_11 rfl) ?_
                        refine WL.p rfl rfl rfl (P.loadO 0 Tryz.isAgg3 rfl rfl rfl) ?_
                        refine WL.p rfl rfl rfl (P.cmp rfl rfl rfl) ?_
                        refine WL.p rfl rfl rfl (P.pickT rfl rfl) ?_
                        refine WL.p rfl rfl rfl (P.move rfl) ?_
                        refine WL.split 87 rfl (fun hs87 => ?_) (fun hs87 => ?_)
                        ·
                          try simp only [decide_eq_true_eq, decide_eq_false_iff_not, beq_iff_eq, beq_eq_false_iff_ne, bne_iff_ne, bne_eq_false_iff_eq, Bool.not_eq_true', Bool.not_eq_false', ne_eq, Int.not_lt, Int.not_le] at hs87
                          refine WL.p rfl rfl rfl (P.fieldAddr fa_34_12 rfl) ?_
                          refine WL.p rfl rfl rfl (P.loadO 1 Tryz.isAgg32 rfl rfl rfl) ?_
                          refine WL.p rfl rfl rfl (P.fieldAddr fa_34_12 rfl) ?_
                          refine WL.p rfl rfl rfl (P.loadO 0 Tryz.isAgg32 rfl rfl rfl) ?_
                          refine WL.callv (ent_of Tryz.func95 rfl rfl) rfl rfl rfl (fun w hs => eqGrs_any _ _ _ _ _ _ w (hr2.st hs) (hr4.st hs)) ?_
                          refine WL.p rfl rfl rfl (P.pickT rfl rfl) ?_
                          refine WL.p rfl rfl rfl (P.assign rfl) ?_
                          refine WL.nil_ ?_
                          refine End.seq ?_
                          refine WC.ret ?_
                          refine End.ret1 rfl rfl ?_
                          exact fun w' hs' => RetV.of (by rw [sameL ‹_› ‹_› ‹_› ‹_› ‹_› ‹_› ‹_› ‹_› ‹_› ‹_› ‹_› ‹_›]) hs'
                        ·
                          try simp only [decide_eq_true_eq, decide_eq_false_iff_not, beq_iff_eq, beq_eq_false_iff_ne, bne_iff_ne, bne_eq_false_iff_eq, Bool.not_eq_true', Bool.not_eq_false', ne_eq, Int.not_lt, Int.not_le] at hs87
                          refine WL.off rfl rfl ?_
                          refine WL.off rfl rfl ?_
                          refine WL.off rfl rfl ?_
                          refine WL.off rfl rfl ?_
                          refine WL.off rfl rfl ?_
                          refine WL.p rfl rfl rfl (P.pickF rfl rfl) ?_
                          refine WL.p rfl rfl rfl (P.assign rfl) ?_
                          refine WL.nil_ ?_
                          refine End.seq ?_
                          refine WC.ret ?_
                          refine End.ret1 rfl rfl ?_
                          exact fun w' hs' => RetV.of (by rw [decide_eq_false (fun e => hs87 (by rw [e]))]) hs'
                      ·
                        try simp only [decide_eq_true_eq, decide_eq_false_iff_not, beq_iff_eq, beq_eq_false_iff_ne, bne_iff_ne, bne_eq_false_iff_eq, Bool.not_eq_true', Bool.not_eq_false', ne_eq, Int.not_lt, Int.not_le] at hs80
                        refine WL.off rfl rfl ?_
                        refine WL.off rfl rfl ?_
                        refine WL.off rfl rfl ?_
                        refine WL.off rfl rfl ?_
                        refine WL.off rfl rfl ?_
                        refine WL.p rfl rfl rfl (P.pickF rfl rfl) ?_
                        refine WL.p rfl rfl rfl (P.move rfl) ?_
                        refine WL.off rfl rfl ?_
                        refine WL.off rfl rfl ?_
                        refine WL.off rfl rfl ?_
                        refine WL.off rfl rfl ?_
                        refine WL.off rfl rfl ?_
                        refine WL.p rfl rfl rfl (P.pickF rfl rfl) ?_
                        refine WL.p rfl rfl rfl (P.assign rfl) ?_
                        refine WL.nil_ ?_
                        refine End.seq ?_
                        refine WC.ret ?_
                        refine End.ret1 rfl rfl ?_
                        exact fun w' hs' => RetV.of (by rw [decide_eq_false (fun e => hs80 (by rw [e]))]) hs'
                    ·
                      try simp only [decide_eq_true_eq, decide_eq_false_iff_not, beq_iff_eq, beq_eq_false_iff_ne, bne_iff_ne, bne_eq_false_iff_eq, Bool.not_eq_true', Bool.not_eq_false', ne_eq, Int.not_lt, Int.not_le] at hs73
                      refine WL.off rfl rfl ?_
                      refine WL.off rfl rfl ?_
                      refine WL.off rfl rfl ?_
                      refine WL.off rfl rfl ?_
                      refine WL.off rfl rfl ?_
                      refine WL.p rfl rfl rfl (P.pickF rfl rfl) ?_
                      refine WL.p rfl rfl rfl (P.move rfl) ?_
                      refine WL.off rfl rfl ?_
                      refine WL.off rfl rfl ?_
                      refine WL.off rfl rfl ?_
                      refine WL.off rfl rfl ?_
                      refine WL.off rfl rfl ?_
                      refine WL.p rfl rfl rfl (P.pickF rfl rfl) ?_
                      refine WL.p rfl rfl rfl (P.move rfl) ?_
                      refine WL.off rfl rfl ?_
                      refine WL.off rfl rfl ?_
                      refine WL.off rfl rfl ?_
                      refine WL.off rfl rfl ?_
                      refine WL.off rfl rfl ?_
                      refine WL.p rfl rfl rfl (P.pickF rfl rfl) ?_
                      refine WL.p rfl rfl rfl (P.assign rfl) ?_
                      refine WL.nil_ ?_
                      refine End.seq ?_
                      refine WC.ret ?_
                      refine End.ret1 rfl rfl ?_
                      exact fun w' hs' => RetV.of (by rw [decide_eq_false (fun e => hs73 (by rw [e]))]) hs'
                  ·
                    try simp only [decide_eq_true_eq, decide_eq_false_iff_not, beq_iff_eq, beq_eq_false_iff_ne, bne_iff_ne, bne_eq_false_iff_eq, Bool.not_eq_true', Bool.not_eq_false', ne_eq, Int.not_lt, Int.not_le] at hs66
                    refine WL.off rfl rfl ?_
                    refine WL.off rfl rfl ?_
                    refine WL.off rfl rfl ?_
                    refine WL.off rfl rfl ?_
                    refine WL.off rfl rfl ?_
                    refine WL.p rfl rfl rfl (P.pickF rfl rfl) ?_
                    refine WL.p rfl rfl rfl (P.move rfl) ?_
                    refine WL.off rfl rfl ?_
                    refine WL.off rfl rfl ?_
                    refine WL.off rfl rfl ?_
                    refine WL.off rfl rfl ?_
                    refine WL.off rfl rfl ?_
                    refine WL.p rfl rfl rfl (P.pickF rfl rfl) ?_
                    refine WL.p rfl rfl rfl (P.move rfl) ?_
                    refine WL.off rfl rfl ?_
                    refine WL.off rfl rfl ?_
                    refine WL.off rfl rfl ?_
                    refine WL.off rfl rfl ?_
                    refine WL.off rfl rfl ?_
                    refine WL.p rfl rfl rfl (P.pickF rfl rfl) ?_
                    refine WL.p rfl rfl rfl (P.move rfl) ?_
                    refine WL.off rfl rfl ?_
                    refine WL.off rfl rfl ?_
                    refine WL.off rfl rfl ?_
                    refine WL.off rfl rfl ?_
                    refine WL.off rfl rfl ?_
                    refine WL.p rfl rfl rfl (P.pickF rfl rfl) ?_
                    refine WL.p rfl rfl rfl (P.assign rfl) ?_
                    refine WL.nil_ ?_
                    refine End.seq ?_
                    refine WC.ret ?_
                    refine End.ret1 rfl rfl ?_
                    exact fun w' hs' => RetV.of (by rw [decide_eq_false (fun e => hs66 (by rw [e]))]) hs'
                ·
                  try simp only [decide_eq_true_eq, decide_eq_false_iff_not, beq_iff_eq, beq_eq_false_iff_ne, bne_iff_ne, bne_eq_false_iff_eq, Bool.not_eq_true', Bool.not_eq_false', ne_eq, Int.not_lt, Int.not_le] at hs59
                  refine WL.off rfl rfl ?_
                  refine WL.off rfl rfl ?_
                  refine WL.off rfl rfl ?_
                  refine WL.off rfl rfl ?_
                  refine WL.off rfl rfl ?_
                  refine WL.p rfl rfl rfl (P.pickF rfl rfl) ?_
                  refine WL.p rfl rfl rfl (P.move rfl) ?_
                  refine WL.off rfl rfl ?_
                  refine WL.off rfl rfl ?_
                  refine WL.off rfl rfl ?_
                  refine WL.off rfl rfl ?_
                  refine WL.off rfl rfl ?_
                  refine WL.p rfl rfl rfl (P.pickF rfl rfl) ?_
                  refine WL.p rfl rfl rfl (P.move rfl) ?_
                  refine WL.off rfl rfl ?_
                  refine WL.off rfl rfl ?_
                  refine WL.off rfl rfl ?_
                  refine WL.off rfl rfl ?_
                  refine WL.off rfl rfl ?_
                  refine WL.p rfl rfl rfl (P.pickF rfl rfl) ?_
                  refine WL.p rfl rfl rfl (P.move rfl) ?_
                  refine WL.off rfl rfl ?_
                  refine WL.off rfl rfl ?_
                  refine WL.off rfl rfl ?_
                  refine WL.off rfl rfl ?_
                  refine WL.off rfl rfl ?_
                  refine WL.p rfl rfl rfl (P.pickF rfl rfl) ?_
                  refine WL.p rfl rfl rfl (P.move rfl) ?_
                  refine WL.off rfl rfl ?_
                  refine WL.off rfl rfl ?_
                  refine WL.off rfl rfl ?_
                  refine WL.off rfl rfl ?_
                  refine WL.off rfl rfl ?_
                  refine WL.p rfl rfl rfl (P.pickF rfl rfl) ?_
                  refine WL.p rfl rfl rfl (P.assign rfl) ?_
                  refine WL.nil_ ?_
                  refine End.seq ?_
                  refine WC.ret ?_
                  refine End.ret1 rfl rfl ?_
                  exact fun w' hs' => RetV.of (by rw [decide_eq_false (fun e => hs59 (by rw [e]))]) hs'
              ·
                try simp only [decide_eq_true_eq, decide_eq_false_iff_not, beq_iff_eq, beq_eq_false_iff_ne, bne_iff_ne, bne_eq_false_iff_eq, Bool.not_eq_true', Bool.not_eq_false', ne_eq, Int.not_lt, Int.not_le] at hs52
                refine WL.off rfl rfl ?_
                refine WL.off rfl rfl ?_
                refine WL.off rfl rfl ?_
                refine WL.off rfl rfl ?_
                refine WL.off rfl rfl ?_
                refine WL.p rfl rfl rfl (P.pickF rfl rfl) ?_
                refine WL.p rfl rfl rfl (P.move rfl) ?_
                refine WL.off rfl rfl ?_
                refine WL.off rfl rfl ?_
                refine WL.off rfl rfl ?_
                refine WL.off rfl rfl ?_
                refine WL.off rfl rfl ?_
                refine WL.p rfl rfl rfl (P.pickF rfl rfl) ?_
                refine WL.p rfl rfl rfl (P.move rfl) ?_
                refine WL.off rfl rfl ?_
                refine WL.off rfl rfl ?_
                refine WL.off rfl rfl ?_
                refine WL.off rfl rfl ?_
                refine WL.off rfl rfl ?_
                refine WL.p rfl rfl rfl (P.pickF rfl rfl) ?_
                refine WL.p rfl rfl rfl (P.move rfl) ?_
                refine WL.off rfl rfl ?_
                refine WL.off rfl rfl ?_
                refine WL.off rfl rfl ?_
                refine WL.off rfl rfl ?_
                refine WL.off rfl rfl ?_
                refine WL.p rfl rfl rfl (P.pickF rfl rfl) ?_
                refine WL.p rfl rfl rfl (P.move rfl) ?_
                refine WL.off rfl rfl ?_
                refine WL.off rfl rfl ?_
                refine WL.off rfl rfl ?_
                refine WL.off rfl rfl ?_
                refine WL.off rfl rfl ?_
                refine WL.p rfl rfl rfl (P.pickF rfl rfl) ?_
                refine WL.p rfl rfl rfl (P.move rfl) ?_
                refine WL.off rfl rfl ?_
                refine WL.off rfl rfl ?_
                refine WL.off rfl rfl ?_
                refine WL.off rfl rfl ?_
                refine WL.off rfl rfl ?_
                refine WL.p rfl rfl rfl (P.pickF rfl rfl) ?_
                refine WL.p rfl rfl rfl (P.assign rfl) ?_
                refine WL.nil_ ?_
                refine End.seq ?_
                refine WC.ret ?_
                refine End.ret1 rfl rfl ?_
                exact fun w' hs' => RetV.of (by rw [decide_eq_false (fun e => hs52 (by rw [e]))]) hs'
            ·
              try simp only [decide_eq_true_eq, decide_eq_false_iff_not, beq_iff_eq, beq_eq_false_iff_ne, bne_iff_ne, bne_eq_false_iff_eq, Bool.not_eq_true', Bool.not_eq_false', ne_eq, Int.not_lt, Int.not_le] at hs45
              refine WL.off rfl rfl ?_
              refine WL.off rfl rfl ?_
              refine WL.off rfl rfl ?_
              refine WL.off rfl rfl ?_
              refine WL.off rfl rfl ?_
              refine WL.p rfl rfl rfl (P.pickF rfl rfl) ?_
              refine WL.p rfl rfl rfl (P.move rfl) ?_
              refine WL.off rfl rfl ?_
              refine WL.off rfl rfl ?_
              refine WL.off rfl rfl ?_
              refine WL.off rfl rfl ?_
              refine WL.off rfl rfl ?_
              refine WL.p rfl rfl rfl (P.pickF rfl rfl) ?_
              refine WL.p rfl rfl rfl (P.move rfl) ?_
              refine WL.off rfl rfl ?_
              refine WL.off rfl rfl ?_
              refine WL.off rfl rfl ?_
              refine WL.off rfl rfl ?_
              refine WL.off rfl rfl ?_
              refine WL.p rfl rfl rfl (P.pickF rfl rfl) ?_
              refine WL.p rfl rfl rfl (P.move rfl) ?_
              refine WL.off rfl rfl ?_
              refine WL.off rfl rfl ?_
              refine WL.off rfl rfl ?_
              refine WL.off rfl rfl ?_
              refine WL.off rfl rfl ?_
              refine WL.p rfl rfl rfl (P.pickF rfl rfl) ?_
              refine WL.p rfl rfl rfl (P.move rfl) ?_
              refine WL.off rfl rfl ?_
              refine WL.off rfl rfl ?_
              refine WL.off rfl rfl ?_
              refine WL.off rfl rfl ?_
              refine WL.off rfl rfl ?_
              refine WL.p rfl rfl rfl (P.pickF rfl rfl) ?_
              refine WL.p rfl rfl rfl (P.move rfl) ?_
              refine WL.off rfl rfl ?_
              refine WL.off rfl rfl ?_
              refine WL.off rfl rfl ?_
              refine WL.off rfl rfl ?_
              refine WL.off rfl rfl ?_
              refine WL.p rfl rfl rfl (P.pickF rfl rfl) ?_
              refine WL.p rfl rfl rfl (P.move rfl) ?_
              refine WL.off rfl rfl ?_
              refine WL.off rfl rfl ?_
              refine WL.off rfl rfl ?_
              refine WL.off rfl rfl ?_
              refine WL.off rfl rfl ?_
              refine WL.p rfl rfl rfl (P.pickF rfl rfl) ?_
              refine WL.p rfl rfl rfl (P.assign rfl) ?_
              refine WL.nil_ ?_
              refine End.seq ?_
              refine WC.ret ?_
              refine End.ret1 rfl rfl ?_
              exact fun w' hs' => RetV.of (by rw [decide_eq_false (fun e => hs45 (by rw [e]))]) hs'
          ·
            try simp only [decide_eq_true_eq, decide_eq_false_iff_not, beq_iff_eq, beq_eq_false_iff_ne, bne_iff_ne, bne_eq_false_iff_eq, Bool.not_eq_true', Bool.not_eq_false', ne_eq, Int.not_lt, Int.not_le] at hs38
            refine WL.off rfl rfl ?_
            refine WL.off rfl rfl ?_
            refine WL.off rfl rfl ?_
            refine WL.off rfl rfl ?_
            refine WL.off rfl rfl ?_
            refine WL.p rfl rfl rfl (P.pickF rfl rfl) ?_
            refine WL.p rfl rfl rfl (P.move rfl) ?_
            refine WL.off rfl rfl ?_
            refine WL.off rfl rfl ?_
            refine WL.off rfl rfl ?_
            refine WL.off rfl rfl ?_
            refine WL.off rfl rfl ?_
            refine WL.p rfl rfl rfl (P.pickF rfl rfl) ?_
            refine WL.p rfl rfl rfl (P.move rfl) ?_
            refine WL.off rfl rfl ?_
            refine WL.off rfl rfl ?_
            refine WL.off rfl rfl ?_
            refine WL.off rfl rfl ?_
            refine WL.off rfl rfl ?_
            refine WL.p rfl rfl rfl (P.pickF rfl rfl) ?_
            refine WL.p rfl rfl rfl (P.move rfl) ?_
            refine WL.off rfl rfl ?_
            refine WL.off rfl rfl ?_
            refine WL.off rfl rfl ?_
            refine WL.off rfl rfl ?_
            refine WL.off rfl rfl ?_
            refine WL.p rfl rfl rfl (P.pickF rfl rfl) ?_
            refine WL.p rfl rfl rfl (P.move rfl) ?_
            refine WL.off rfl rfl ?_
            refine WL.off rfl rfl ?_
            refine WL.off rfl rfl ?_
            refine WL.off rfl rfl ?_
            refine WL.off rfl rfl ?_
            refine WL.p rfl rfl rfl (P.pickF rfl rfl) ?_
            refine WL.p rfl rfl rfl (P.move rfl) ?_
            refine WL.off rfl rfl ?_
            refine WL.off rfl rfl ?_
            refine WL.off rfl rfl ?_
            refine WL.off rfl rfl ?_
            refine WL.off rfl rfl ?_
            refine WL.p rfl rfl rfl (P.pickF rfl rfl) ?_
            refine WL.p rfl rfl rfl (P.move rfl) ?_
            refine WL.off rfl rfl ?_
            refine WL.off rfl rfl ?_
            refine WL.off rfl rfl ?_
            refine WL.off rfl rfl ?_
            refine WL.off rfl rfl ?_
            refine WL.p rfl rfl rfl (P.pickF rfl rfl) ?_
            refine WL.p rfl rfl rfl (P.move rfl) ?_
            refine WL.off rfl rfl ?_
            refine WL.off rfl rfl ?_
            refine WL.off rfl rfl ?_
            refine WL.off rfl rfl ?_
            refine WL.off rfl rfl ?_
            refine WL.p rfl rfl rfl (P.pickF rfl rfl) ?_
            refine WL.p rfl rfl rfl (P.assign rfl) ?_
            refine WL.nil_ ?_
            refine End.seq ?_
            refine WC.ret ?_
            refine End.ret1 rfl rfl ?_
            exact fun w' hs' => RetV.of (by rw [decide_eq_false (fun e => hs38 (by rw [e]))]) hs'
        ·
          try simp only [decide_eq_true_eq, decide_eq_false_iff_not, beq_iff_eq, beq_eq_false_iff_ne, bne_iff_ne, bne_eq_false_iff_eq, Bool.not_eq_true', Bool.not_eq_false', ne_eq, Int.not_lt, Int.not_le] at hs31
          refine WL.off rfl rfl ?_
          refine WL.off rfl rfl ?_
          refine WL.off rfl rfl ?_
          refine WL.off rfl rfl ?_
          refine WL.off rfl rfl ?_
          refine WL.p rfl rfl rfl (P.pickF rfl rfl) ?_
          refine WL.p rfl rfl rfl (P.move rfl) ?_
          refine WL.off rfl rfl ?_
          refine WL.off rfl rfl ?_
          refine WL.off rfl rfl ?_
          refine WL.off rfl rfl ?_
          refine WL.off rfl rfl ?_
          refine WL.p rfl rfl rfl (P.pickF rfl rfl) ?_
          refine WL.p rfl rfl rfl (P.move rfl) ?_
          refine WL.off rfl rfl ?_
          refine WL.off rfl rfl ?_
          refine WL.off rfl rfl ?_
          refine WL.off rfl rfl ?_
          refine WL.off rfl rfl ?_
          refine WL.p rfl rfl rfl (P.pickF rfl rfl) ?_
          refine WL.p rfl rfl rfl (P.move rfl) ?_
          refine WL.off rfl rfl ?_
          refine WL.off rfl rfl ?_
          refine WL.off rfl rfl ?_
          refine WL.off rfl rfl ?_
          refine WL.off rfl rfl ?_
          refine WL.p rfl rfl rfl (P.pickF rfl rfl) ?_
          refine WL.p rfl rfl rfl (P.move rfl) ?_
          refine WL.off rfl rfl ?_
          refine WL.off rfl rfl ?_
          refine WL.off rfl rfl ?_
          refine WL.off rfl rfl ?_
          refine WL.off rfl rfl ?_
          refine WL.p rfl rfl rfl (P.pickF rfl rfl) ?_
          refine WL.p rfl rfl rfl (P.move rfl) ?_
          refine WL.off rfl rfl ?_
          refine WL.off rfl rfl ?_
          refine WL.off rfl rfl ?_
          refine WL.off rfl rfl ?_
          refine WL.off rfl rfl ?_
          refine WL.p rfl rfl rfl (P.pickF rfl rfl) ?_
          refine WL.p rfl rfl rfl (P.move rfl) ?_
          refine WL.off rfl rfl ?_
          refine WL.off rfl rfl ?_
          refine WL.off rfl rfl ?_
          refine WL.off rfl rfl ?_
          refine WL.off rfl rfl ?_
          refine WL.p rfl rfl rfl (P.pickF rfl rfl) ?_
          refine WL.p rfl rfl rfl (P.move rfl) ?_
          refine WL.off rfl rfl ?_
          refine WL.off rfl rfl ?_
          refine WL.off rfl rfl ?_
          refine WL.off rfl rfl ?_
          refine WL.off rfl rfl ?_
          refine WL.p rfl rfl rfl (P.pickF rfl rfl) ?_
          refine WL.p rfl rfl rfl (P.move rfl) ?_
          refine WL.off rfl rfl ?_
          refine WL.off rfl rfl ?_
          refine WL.off rfl rfl ?_
          refine WL.off rfl rfl ?_
          refine WL.off rfl rfl ?_
          refine WL.p rfl rfl rfl (P.pickF rfl rfl) ?_
          refine WL.p rfl rfl rfl (P.assign rfl) ?_
          refine WL.nil_ ?_
          refine End.seq ?_
          refine WC.ret ?_
          refine End.ret1 rfl rfl ?_
          exact fun w' hs' => RetV.of (by rw [decide_eq_false (fun e => hs31 (by rw [e]))]) hs'
      ·
        try simp only [decide_eq_true_eq, decide_eq_false_iff_not, beq_iff_eq, beq_eq_false_iff_ne, bne_iff_ne, bne_eq_false_iff_eq, Bool.not_eq_true', Bool.not_eq_false', ne_eq, Int.not_lt, Int.not_le] at hs24
        refine WL.off rfl rfl ?_
        refine WL.off rfl rfl ?_
        refine WL.off rfl rfl ?_
        refine WL.off rfl rfl ?_
        refine WL.off rfl rfl ?_
        refine WL.p rfl rfl rfl (P.pickF rfl rfl) ?_
        refine WL.p rfl rfl rfl (P.move rfl) ?_
        refine WL.off rfl rfl ?_
        refine WL.off rfl rfl ?_
        refine WL.off rfl rfl ?_
        refine WL.off rfl rfl ?_
        refine WL.off rfl rfl ?_
        refine WL.p rfl rfl rfl (P.pickF rfl rfl) ?_
        refine WL.p rfl rfl rfl (P.move rfl) ?_
        refine WL.off rfl rfl ?_
        refine WL.off rfl rfl ?_
        refine WL.off rfl rfl ?_
        refine WL.off rfl rfl ?_
        refine WL.off rfl rfl ?_
        refine WL.p rfl rfl rfl (P.pickF rfl rfl) ?_
        refine WL.p rfl rfl rfl (P.move rfl) ?_
        refine WL.off rfl rfl ?_
        refine WL.off rfl rfl ?_
        refine WL.off rfl rfl ?_
        refine WL.off rfl rfl ?_
        refine WL.off rfl rfl ?_
        refine WL.p rfl rfl rfl (P.pickF rfl rfl) ?_
        refine WL.p rfl rfl rfl (P.move rfl) ?_
        refine WL.off rfl rfl ?_
        refine WL.off rfl rfl ?_
        refine WL.off rfl rfl ?_
        refine WL.off rfl rfl ?_
        refine WL.off rfl rfl ?_
        refine WL.p rfl rfl rfl (P.pickF rfl rfl) ?_
        refine WL.p rfl rfl rfl (P.move rfl) ?_
        refine WL.off rfl rfl ?_
        refine WL.off rfl rfl ?_
        refine WL.off rfl rfl ?_
        refine WL.off rfl rfl ?_
        refine WL.off rfl rfl ?_
        refine WL.p rfl rfl rfl (P.pickF rfl rfl) ?_
        refine WL.p rfl rfl rfl (P.move rfl) ?_
        refine WL.off rfl rfl ?_
        refine WL.off rfl rfl ?_
        refine WL.off rfl rfl ?_
        refine WL.off rfl rfl ?_
        refine WL.off rfl rfl ?_
        refine WL.p rfl rfl rfl (P.pickF rfl rfl) ?_
        refine WL.p rfl rfl rfl (P.move rfl) ?_
        refine WL.off rfl rfl ?_
        refine WL.off rfl rfl ?_
        refine WL.off rfl rfl ?_
        refine WL.off rfl rfl ?_
        refine WL.off rfl rfl ?_
        refine WL.p rfl rfl rfl (P.pickF rfl rfl) ?_
        refine WL.p rfl rfl rfl (P.move rfl) ?_
        refine WL.off rfl rfl ?_
        refine WL.off rfl rfl ?_
        refine WL.off rfl rfl ?_
        refine WL.off rfl rfl ?_
        refine WL.off rfl rfl ?_
        refine WL.p rfl rfl rfl (P.pickF rfl rfl) ?_
        refine WL.p rfl rfl rfl (P.move rfl) ?_
        refine WL.off rfl rfl ?_
        refine WL.off rfl rfl ?_
        refine WL.off rfl rfl ?_
        refine WL.off rfl rfl ?_
        refine WL.off rfl rfl ?_
        refine WL.p rfl rfl rfl (P.pickF rfl rfl) ?_
        refine WL.p rfl rfl rfl (P.assign rfl) ?_
        refine WL.nil_ ?_
        refine End.seq ?_
        refine WC.ret ?_
        refine End.ret1 rfl rfl ?_
        exact fun w' hs' => RetV.of (by rw [decide_eq_false (fun e => hs24 (by rw [e]))]) hs'
    ·
      try simp only [decide_eq_true_eq, decide_eq_false_iff_not, beq_iff_eq, beq_eq_false_iff_ne, bne_iff_ne, bne_eq_false_iff_eq, Bool.not_eq_true', Bool.not_eq_false', ne_eq, Int.not_lt, Int.not_le] at hs17
      refine WL.off rfl rfl ?_
      refine WL.off rfl rfl ?_
      refine WL.off rfl rfl ?_
      refine WL.off rfl rfl ?_
      refine WL.off rfl rfl ?_
      refine WL.p rfl rfl rfl (P.pickF rfl rfl) ?_
      refine WL.p rfl rfl rfl (P.move rfl) ?_
      refine WL.off rfl rfl ?_
      refine WL.off rfl rfl ?_
      refine WL.off rfl rfl ?_
      refine WL.off rfl rfl ?_
      refine WL.off rfl rfl ?_
      refine WL.p rfl rfl rfl (P.pickF rfl rfl) ?_
      refine WL.p rfl rfl rfl (P.move rfl) ?_
      refine WL.off rfl rfl ?_
      refine WL.off rfl rfl ?_
      refine WL.off rfl rfl ?_
      refine WL.off rfl rfl ?_
      refine WL.off rfl rfl ?_
      refine WL.p rfl rfl rfl (P.pickF rfl rfl) ?_
      refine WL.p rfl rfl rfl (P.move rfl) ?_
      refine WL.off rfl rfl ?_
      refine WL.off rfl rfl ?_
      refine WL.off rfl rfl ?_
      refine WL.off rfl rfl ?_
      refine WL.off rfl rfl ?_
      refine WL.p rfl rfl rfl (P.pickF rfl rfl) ?_
      refine WL.p rfl rfl rfl (P.move rfl) ?_
      refine WL.off rfl rfl ?_
      refine WL.off rfl rfl ?_
      refine WL.off rfl rfl ?_
      refine WL.off rfl rfl ?_
      refine WL.off rfl rfl ?_
      refine WL.p rfl rfl rfl (P.pickF rfl rfl) ?_
      refine WL.p rfl rfl rfl (P.move rfl) ?_
      refine WL.off rfl rfl ?_
      refine WL.off rfl rfl ?_
      refine WL.off rfl rfl ?_
      refine WL.off rfl rfl ?_
      refine WL.off rfl rfl ?_
      refine WL.p rfl rfl rfl (P.pickF rfl rfl) ?_
      refine WL.p rfl rfl rfl (P.move rfl) ?_
      refine WL.off rfl rfl ?_
      refine WL.off rfl rfl ?_
      refine WL.off rfl rfl ?_
      refine WL.off rfl rfl ?_
      refine WL.off rfl rfl ?_
      refine WL.p rfl rfl rfl (P.pickF rfl rfl) ?_
      refine WL.p rfl rfl rfl (P.move rfl) ?_
      refine WL.off rfl rfl ?_
      refine WL.off rfl rfl ?_
      refine WL.off rfl rfl ?_
      refine WL.off rfl rfl ?_
      refine WL.off rfl rfl ?_
      refine WL.p rfl rfl rfl (P.pickF rfl rfl) ?_
      refine WL.p rfl rfl rfl (P.move rfl) ?_
      refine WL.off rfl rfl ?_
      refine WL.off rfl rfl ?_
      refine WL.off rfl rfl ?_
      refine WL.off rfl rfl ?_
      refine WL.off rfl rfl ?_
      refine WL.p rfl rfl rfl (P.pickF rfl rfl) ?_
      refine WL.p rfl rfl rfl (P.move rfl) ?_
      refine WL.off rfl rfl ?_
      refine WL.off rfl rfl ?_
      refine WL.off rfl rfl ?_
      refine WL.off rfl rfl ?_
      refine WL.off rfl rfl ?_
      refine WL.p rfl rfl rfl (P.pickF rfl rfl) ?_
      refine WL.p rfl rfl rfl (P.move rfl) ?_
      refine WL.off rfl rfl ?_
      refine WL.off rfl rfl ?_
      refine WL.off rfl rfl ?_
      refine WL.off rfl rfl ?_
      refine WL.off rfl rfl ?_
      refine WL.p rfl rfl rfl (P.pickF rfl rfl) ?_
      refine WL.p rfl rfl rfl (P.assign rfl) ?_
      refine WL.nil_ ?_
      refine End.seq ?_
      refine WC.ret ?_
      refine End.ret1 rfl rfl ?_
      exact fun w' hs' => RetV.of (by rw [decide_eq_false (fun e => hs17 (by rw [e]))]) hs'
  ·
    try simp only [decide_eq_true_eq, decide_eq_false_iff_not, beq_iff_eq, beq_eq_false_iff_ne, bne_iff_ne, bne_eq_false_iff_eq, Bool.not_eq_true', Bool.not_eq_false', ne_eq, Int.not_lt, Int.not_le] at hs10
    refine WL.off rfl rfl ?_
    refine WL.off rfl rfl ?_
    refine WL.off rfl rfl ?_
    refine WL.off rfl rfl ?_
    refine WL.off rfl rfl ?_
    refine WL.p rfl rfl rfl (P.pickF rfl rfl) ?_
    refine WL.p rfl rfl rfl (P.move rfl) ?_
    refine WL.off rfl rfl ?_
    refine WL.off rfl rfl ?_
    refine WL.off rfl rfl ?_
    refine WL.off rfl rfl ?_
    refine WL.off rfl rfl ?_
    refine WL.p rfl rfl rfl (P.pickF rfl rfl) ?_
    refine WL.p rfl rfl rfl (P.move rfl) ?_
    refine WL.off rfl rfl ?_
    refine WL.off rfl rfl ?_
    refine WL.off rfl rfl ?_
    refine WL.off rfl rfl ?_
    refine WL.off rfl rfl ?_
    refine WL.p rfl rfl rfl (P.pickF rfl rfl) ?_
    refine WL.p rfl rfl rfl (P.move rfl) ?_
    refine WL.off rfl rfl ?_
    refine WL.off rfl rfl ?_
    refine WL.off rfl rfl ?_
    refine WL.off rfl rfl ?_
    refine WL.off rfl rfl ?_
    refine WL.p rfl rfl rfl (P.pickF rfl rfl) ?_
    refine WL.p rfl rfl rfl (P.move rfl) ?_
    refine WL.off rfl rfl ?_
    refine WL.off rfl rfl ?_
    refine WL.off rfl rfl ?_
    refine WL.off rfl rfl ?_
    refine WL.off rfl rfl ?_
    refine WL.p rfl rfl rfl (P.pickF rfl rfl) ?_
    refine WL.p rfl rfl rfl (P.move rfl) ?_
    refine WL.off rfl rfl ?_
    refine WL.off rfl rfl ?_
    refine WL.off rfl rfl ?_
    refine WL.off rfl rfl ?_
    refine WL.off rfl rfl ?_
    refine WL.p rfl rfl rfl (P.pickF rfl rfl) ?_
    refine WL.p rfl rfl rfl (P.move rfl) ?_
    refine WL.off rfl rfl ?_
    refine WL.off rfl rfl ?_
    refine WL.off rfl rfl ?_
    refine WL.off rfl rfl ?_
    refine WL.off rfl rfl ?_
    refine WL.p rfl rfl rfl (P.pickF rfl rfl) ?_
    refine WL.p rfl rfl rfl (P.move rfl) ?_
    refine WL.off rfl rfl ?_
    refine WL.off rfl rfl ?_
    refine WL.off rfl rfl ?_
    refine WL.off rfl rfl ?_
    refine WL.off rfl rfl ?_
    refine WL.p rfl rfl rfl (P.pickF rfl rfl) ?_
    refine WL.p rfl rfl rfl (P.move rfl) ?_
    refine WL.off rfl rfl ?_
    refine WL.off rfl rfl ?_
    refine WL.off rfl rfl ?_
    refine WL.off rfl rfl ?_
    refine WL.off rfl rfl ?_
    refine WL.p rfl rfl rfl (P.pickF rfl rfl) ?_
    refine WL.p rfl rfl rfl (P.move rfl) ?_
    refine WL.off rfl rfl ?_
    refine WL.off rfl rfl ?_
    refine WL.off rfl rfl ?_
    refine WL.off rfl rfl ?_
    refine WL.off rfl rfl ?_
    refine WL.p rfl rfl rfl (P.pickF rfl rfl) ?_
    refine WL.p rfl rfl rfl (P.move rfl) ?_
    refine WL.off rfl rfl ?_
    refine WL.off rfl rfl ?_
    refine WL.off rfl rfl ?_
    refine WL.off rfl rfl ?_
    refine WL.off rfl rfl ?_
    refine WL.p rfl rfl rfl (P.pickF rfl rfl) ?_
    refine WL.p rfl rfl rfl (P.move rfl) ?_
    refine WL.off rfl rfl ?_
    refine WL.off rfl rfl ?_
    refine WL.off rfl rfl ?_
    refine WL.off rfl rfl ?_
    refine WL.off rfl rfl ?_
    refine WL.p rfl rfl rfl (P.pickF rfl rfl) ?_
    refine WL.p rfl rfl rfl (P.assign rfl) ?_
    refine WL.nil_ ?_
    refine End.seq ?_
    refine WC.ret ?_
    refine End.ret1 rfl rfl ?_
    exact fun w' hs' => RetV.of (by rw [decide_eq_false (fun e => hs10 (by rw [e]))]) hs'



theorem sameL2 {a b : E} (h0 : a.kind = b.kind) (h1 : a.name.toList = b.name.toList) (h2 : a.ds = b.ds) (h3 : a.alt = b.alt) (h4 : a.used = b.used) (h5 : a.limit = b.limit) (h6 : a.last = b.last) (h7 : a.empty = b.empty) (h8 : a.owner.toList = b.owner.toList) (h9 : a.target.toList = b.target.toList) (h10 : a.catalog = b.catalog) (h11 : a.grants = b.grants) : (a.level == b.level) = decide (a = b) := by
  have e1 := toList_inj.1 h1
  have e8 := toList_inj.1 h8
  have e9 := toList_inj.1 h9
  cases a; cases b
  simp only [E.mk.injEq] at *
  simp only [h0, h2, h3, h4, h5, h6, h7, h10, h11, e1, e8, e9, true_and, and_true]
  exact Bool.beq_eq_decide_eq _ _

set_option maxRecDepth 100000 in
theorem refSame_any (a b : E) (va vg ub ug : Value) (w : World) (ha : EntAt w a va vg) (hb : EntAt w b ub ug) :
    Calls Tryz.prog 32 #[.agg (a.cells va vg), .agg (b.cells ub ug)] w (RetV w (.bool (decide (a = b)))) := by
  obtain ⟨⟨A1, c1, rfl, hc1, hr1⟩, ⟨A2, c2, rfl, hc2, hr2⟩⟩ := ha
  obtain ⟨⟨A3, c3, rfl, hc3, hr3⟩, ⟨A4, c4, rfl, hc4, hr4⟩⟩ := hb
  have hl2 := hr2.1
  have hl4 := hr4.1
  refine enter Tryz.func32 rfl Tryz.ntmps32 rfl ?_
  refine WC.seq ?_
  refine WC.region ?_
  refine WL.box rfl rfl rfl (fun b2 => ?_)
  refine WL.box rfl rfl rfl (fun b3 => ?_)
  refine WL.p rfl rfl rfl (P.assign rfl) ?_
  refine WL.nil_ ?_
  refine End.seq ?_
  refine WC.seq ?_
  refine WC.seq ?_
  refine WC.region ?_
  refine WL.p rfl rfl rfl (P.fieldAddr fa_34_12 rfl) ?_
  refine WL.p rfl rfl rfl (P.loadO 1 Tryz.isAgg32 rfl rfl rfl) ?_
  refine WL.p rfl rfl rfl (P.lenR Tryz.underlying32 rfl) ?_
  refine WL.p rfl rfl rfl (P.fieldAddr fa_34_12 rfl) ?_
  refine WL.p rfl rfl rfl (P.loadO 0 Tryz.isAgg32 rfl rfl rfl) ?_
  refine WL.p rfl rfl rfl (P.lenR Tryz.underlying32 rfl) ?_
  refine WL.p rfl rfl rfl (P.cmp rfl rfl rfl) ?_
  refine WL.nil_ ?_
  refine End.seq ?_
  refine WC.cond rfl (fun hc12 => ?_) (fun hc12 => ?_)
  ·
    try simp only [decide_eq_true_eq, decide_eq_false_iff_not, beq_iff_eq, beq_eq_false_iff_ne, bne_iff_ne, bne_eq_false_iff_eq, Bool.not_eq_true', Bool.not_eq_false', ne_eq, Int.not_lt, Int.not_le] at hc12
    refine WC.seq ?_
    refine WC.region ?_
    refine WL.p rfl rfl rfl (P.assign rfl) ?_
    refine WL.nil_ ?_
    refine End.seq ?_
    refine WC.ret ?_
    refine End.thenR ?_
    refine End.ret1 rfl rfl ?_
    exact fun w' hs' => RetV.of (by rw [decide_eq_false (fun e => hc12 (by rw [e]))]) hs'
  ·
    try simp only [decide_eq_true_eq, decide_eq_false_iff_not, beq_iff_eq, beq_eq_false_iff_ne, bne_iff_ne, bne_eq_false_iff_eq, Bool.not_eq_true', Bool.not_eq_false', ne_eq, Int.not_lt, Int.not_le] at hc12
    refine WC.skip ?_
    refine End.seq ?_
    refine WC.seq ?_
    refine WC.seq ?_
    refine WC.region ?_
    refine WL.p rfl rfl rfl (P.assign rfl) ?_
    refine WL.nil_ ?_
    refine End.seq ?_
    refine WC.block ?_
    refine WC.loopD (σ := Nat) (fun k => [(5, .int .i64 k)]) (fun k => _) (fun k => k ≤ a.grants.length ∧ a.grants.take k = b.grants.take k) (fun k => a.grants.length - k) 0 ⟨Nat.zero_le _, rfl⟩ (Env.sub_cons rfl (Env.sub_nil)) [0, 1] rfl rfl ?_
    rintro k ⟨hk, ht⟩
    refine WC.seq ?_
    refine WC.seq ?_
    refine WC.region ?_
    refine WL.p rfl rfl rfl (P.move rfl) ?_
    refine WL.p rfl rfl rfl (P.fieldAddr fa_34_12 rfl) ?_
    refine WL.p rfl rfl rfl (P.loadO 1 Tryz.isAgg32 rfl rfl rfl) ?_
    refine WL.p rfl rfl rfl (P.lenR Tryz.underlying32 rfl) ?_
    refine WL.p rfl rfl rfl (P.cmp rfl rfl rfl) ?_
    refine WL.nil_ ?_
    refine End.seq ?_
    refine WC.cond rfl (fun hc17 => ?_) (fun hc17 => ?_)
    ·
      try simp only [decide_eq_true_eq, decide_eq_false_iff_not, beq_iff_eq, beq_eq_false_iff_ne, bne_iff_ne, bne_eq_false_iff_eq, Bool.not_eq_true', Bool.not_eq_false', ne_eq, Int.not_lt, Int.not_le] at hc17
      obtain ⟨bb, off, rfl, hcx⟩ := hr2.at_ (by omega)
      obtain ⟨bb', off', rfl, hcy⟩ := hr4.at_ (by omega)
      obtain ⟨x, hx⟩ := get_of_lt (xs := a.grants) (k := k) (by omega)
      obtain ⟨y, hy⟩ := get_of_lt (xs := b.grants) (k := k) (by omega)
      refine WC.skip ?_
      refine End.seq ?_
      refine WC.seq ?_
      refine WC.block ?_
      refine WC.seq ?_
      refine WC.quiet (by kernel_rfl) ?_
      refine WQ.p rfl rfl rfl (P.fieldAddr fa_34_12 rfl) ?_
      refine WQ.p rfl rfl rfl (P.loadO 1 Tryz.isAgg32 rfl rfl rfl) ?_
      refine WQ.p rfl rfl rfl (P.move rfl) ?_
      refine WQ.p rfl rfl rfl (P.elemAddr Tryz.underlying32 Tryz.sizeOf51 rfl rfl (by omega) (by omega)) ?_
      refine WQ.p rfl rfl rfl (P.loadBA (vs := (Gr.cells x).toArray) Tryz.isAgg51 Tryz.sizeOf51 rfl rfl (fun j v hv => hcx k x hx j v (by simpa [Gr.cells] using hv))) ?_
      refine WQ.p rfl rfl rfl (P.fieldAddr fa_34_12 rfl) ?_
      refine WQ.p rfl rfl rfl (P.loadO 0 Tryz.isAgg32 rfl rfl rfl) ?_
      refine WQ.p rfl rfl rfl (P.move rfl) ?_
      refine WQ.p rfl rfl rfl (P.elemAddr Tryz.underlying32 Tryz.sizeOf51 rfl rfl (by omega) (by omega)) ?_
      refine WQ.p rfl rfl rfl (P.loadBA (vs := (Gr.cells y).toArray) Tryz.isAgg51 Tryz.sizeOf51 rfl rfl (fun j v hv => hcy k y hy j v (by simpa [Gr.cells] using hv))) ?_
      refine WQ.p rfl rfl rfl (P.neAgg egt51 rfl rfl (fun w => eq51 _ _ w)) ?_
      refine WQ.nil_ ?_
      refine End.seq ?_
      refine WC.cond rfl (fun hc30 => ?_) (fun hc30 => ?_)
      ·
        try simp only [decide_eq_true_eq, decide_eq_false_iff_not, beq_iff_eq, beq_eq_false_iff_ne, bne_iff_ne, bne_eq_false_iff_eq, Bool.not_eq_true', Bool.not_eq_false', ne_eq, Int.not_lt, Int.not_le] at hc30
        refine WC.seq ?_
        refine WC.region ?_
        refine WL.p rfl rfl rfl (P.assign rfl) ?_
        refine WL.nil_ ?_
        refine End.seq ?_
        refine WC.ret ?_
        refine End.blkR ?_
        refine End.thenR ?_
        refine End.thenR ?_
        refine End.blkR ?_
        refine End.thenR ?_
        refine End.ret1 rfl rfl ?_
        exact fun w' hs' => RetV.of (by rw [decide_eq_false (fun e => hc30 (by rw [e, hy] at hx; exact (Option.some.inj hx).symm))]) hs'
      ·
        try simp only [decide_eq_true_eq, decide_eq_false_iff_not, beq_iff_eq, beq_eq_false_iff_ne, bne_iff_ne, bne_eq_false_iff_eq, Bool.not_eq_true', Bool.not_eq_false', ne_eq, Int.not_lt, Int.not_le] at hc30
        refine WC.skip ?_
        refine End.blkN ?_
        refine End.seq ?_
        refine WC.region ?_
        refine WL.p rfl rfl rfl (P.move rfl) ?_
        refine WL.p rfl rfl rfl (P.ari64 rfl rfl rfl (by omega)) ?_
        refine WL.p rfl rfl rfl (P.assign rfl) ?_
        refine WL.nil_ ?_
        refine End.againD (k + 1) ?_ ?_ rfl (Env.sub_cons rfl (Env.sub_nil)) rfl [0, 1] rfl rfl
        · exact ⟨by omega, by rw [take_snoc hx, take_snoc hy, ht, hc30]⟩
        · omega
    ·
      try simp only [decide_eq_true_eq, decide_eq_false_iff_not, beq_iff_eq, beq_eq_false_iff_ne, bne_iff_ne, bne_eq_false_iff_eq, Bool.not_eq_true', Bool.not_eq_false', ne_eq, Int.not_lt, Int.not_le] at hc17
      have eg : a.grants = b.grants := by rw [List.take_of_length_le (by omega), List.take_of_length_le (by omega)] at ht; exact ht
      refine WC.exit ?_
      refine End.thenX ?_
      refine End.thenX ?_
      refine End.blkX ?_
      refine End.seq ?_
      refine WC.seq ?_
      refine WC.region ?_
      refine WL.p rfl rfl rfl (P.fieldAddr fa_34_0 rfl) ?_
      refine WL.p rfl rfl rfl (P.loadO 1 Tryz.isAgg3 rfl rfl rfl) ?_
      refine WL.p rfl rfl rfl (P.fieldAddr fa_34_0 rfl) ?_
      refine WL.p rfl rfl rfl (P.loadO 0 Tryz.isAgg3 rfl rfl rfl) ?_
      refine WL.p rfl rfl rfl (P.cmp rfl rfl rfl) ?_
      refine WL.p rfl rfl rfl (P.move rfl) ?_
      refine WL.split 36 rfl (fun hs36 => ?_) (fun hs36 => ?_)
      ·
        try simp only [decide_eq_true_eq, decide_eq_false_iff_not, beq_iff_eq, beq_eq_false_iff_ne, bne_iff_ne, bne_eq_false_iff_eq, Bool.not_eq_true', Bool.not_eq_false', ne_eq, Int.not_lt, Int.not_le] at hs36
        refine WL.p rfl rfl rfl (P.fieldAddr fa_34_1 rfl) ?_
        refine WL.p rfl rfl rfl (P.loadO 1 Tryz.isAgg9 rfl rfl rfl) ?_
        refine WL.p rfl rfl rfl (P.fieldAddr fa_34_1 rfl) ?_
        refine WL.p rfl rfl rfl (P.loadO 0 Tryz.isAgg9 rfl rfl rfl) ?_
        refine WL.p rfl rfl rfl (P.cmps rfl rfl rfl) ?_
        refine WL.p rfl rfl rfl (P.pickT rfl rfl) ?_
        refine WL.p rfl rfl rfl (P.move rfl) ?_
        refine WL.split 43 rfl (fun hs43 => ?_) (fun hs43 => ?_)
        ·
          try simp only [decide_eq_true_eq, decide_eq_false_iff_not, beq_iff_eq, beq_eq_false_iff_ne, bne_iff_ne, bne_eq_false_iff_eq, Bool.not_eq_true', Bool.not_eq_false', ne_eq, Int.not_lt, Int.not_le] at hs43
          refine WL.p rfl rfl rfl (P.fieldAddr fa_34_2 rfl) ?_
          refine WL.p rfl rfl rfl (P.loadA 1 (vs := a.ds.cells) Tryz.isAgg31 Tryz.sizeOf31 rfl rfl rfl (E.ds_get a _ _)) ?_
          refine WL.p rfl rfl rfl (P.fieldAddr fa_34_2 rfl) ?_
          refine WL.p rfl rfl rfl (P.loadA 0 (vs := b.ds.cells) Tryz.isAgg31 Tryz.sizeOf31 rfl rfl rfl (E.ds_get b _ _)) ?_
          refine WL.p rfl rfl rfl (P.eqAgg egt31 rfl rfl (fun w => eq31 _ _ w)) ?_
          refine WL.p rfl rfl rfl (P.pickT rfl rfl) ?_
          refine WL.p rfl rfl rfl (P.move rfl) ?_
          refine WL.split 50 rfl (fun hs50 => ?_) (fun hs50 => ?_)
          ·
            try simp only [decide_eq_true_eq, decide_eq_false_iff_not, beq_iff_eq, beq_eq_false_iff_ne, bne_iff_ne, bne_eq_false_iff_eq, Bool.not_eq_true', Bool.not_eq_false', ne_eq, Int.not_lt, Int.not_le] at hs50
            refine WL.p rfl rfl rfl (P.fieldAddr fa_34_3 rfl) ?_
            refine WL.p rfl rfl rfl (P.loadO 1 Tryz.isAgg22 rfl rfl rfl) ?_
            refine WL.p rfl rfl rfl (P.fieldAddr fa_34_3 rfl) ?_
            refine WL.p rfl rfl rfl (P.loadO 0 Tryz.isAgg22 rfl rfl rfl) ?_
            refine WL.callv (ent_of Tryz.func33 rfl rfl) rfl rfl rfl (fun w hs => ints_any _ _ _ _ _ _ w (hr1.st hs) (hr3.st hs)) ?_
            refine WL.p rfl rfl rfl (P.pickT rfl rfl) ?_
            refine WL.p rfl rfl rfl (P.move rfl) ?_
            refine WL.split 57 rfl (fun hs57 => ?_) (fun hs57 => ?_)
            ·
              try simp only [decide_eq_true_eq, decide_eq_false_iff_not, beq_iff_eq, beq_eq_false_iff_ne, bne_iff_ne, bne_eq_false_iff_eq, Bool.not_eq_true', Bool.not_eq_false', ne_eq, Int.not_lt, Int.not_le] at hs57
              refine WL.p rfl rfl rfl (P.fieldAddr fa_34_4 rfl) ?_
              refine WL.p rfl rfl rfl (P.loadO 1 Tryz.isAgg3 rfl rfl rfl) ?_
              refine WL.p rfl rfl rfl (P.fieldAddr fa_34_4 rfl) ?_
              refine WL.p rfl rfl rfl (P.loadO 0 Tryz.isAgg3 rfl rfl rfl) ?_
              refine WL.p rfl rfl rfl (P.cmp rfl rfl rfl) ?_
              refine WL.p rfl rfl rfl (P.pickT rfl rfl) ?_
              refine WL.p rfl rfl rfl (P.move rfl) ?_
              refine WL.split 64 rfl (fun hs64 => ?_) (fun hs64 => ?_)
              ·
                try simp only [decide_eq_true_eq, decide_eq_false_iff_not, beq_iff_eq, beq_eq_false_iff_ne, bne_iff_ne, bne_eq_false_iff_eq, Bool.not_eq_true', Bool.not_eq_false', ne_eq, Int.not_lt, Int.not_le] at hs64
                refine WL.p rfl rfl rfl (P.fieldAddr fa_34_5 rfl) ?_
                refine WL.p rfl rfl rfl (P.loadO 1 Tryz.isAgg3 rfl rfl rfl) ?_
                refine WL.p rfl rfl rfl (P.fieldAddr fa_34_5 rfl) ?_
                refine WL.p rfl rfl rfl (P.loadO 0 Tryz.isAgg3 rfl rfl rfl) ?_
                refine WL.p rfl rfl rfl (P.cmp rfl rfl rfl) ?_
                refine WL.p rfl rfl rfl (P.pickT rfl rfl) ?_
                refine WL.p rfl rfl rfl (P.move rfl) ?_
                refine WL.split 71 rfl (fun hs71 => ?_) (fun hs71 => ?_)
                ·
                  try simp only [decide_eq_true_eq, decide_eq_false_iff_not, beq_iff_eq, beq_eq_false_iff_ne, bne_iff_ne, bne_eq_false_iff_eq, Bool.not_eq_true', Bool.not_eq_false', ne_eq, Int.not_lt, Int.not_le] at hs71
                  refine WL.p rfl rfl rfl (P.fieldAddr fa_34_6 rfl) ?_
                  refine WL.p rfl rfl rfl (P.loadO 1 Tryz.isAgg3 rfl rfl rfl) ?_
                  refine WL.p rfl rfl rfl (P.fieldAddr fa_34_6 rfl) ?_
                  refine WL.p rfl rfl rfl (P.loadO 0 Tryz.isAgg3 rfl rfl rfl) ?_
                  refine WL.p rfl rfl rfl (P.cmp rfl rfl rfl) ?_
                  refine WL.p rfl rfl rfl (P.pickT rfl rfl) ?_
                  refine WL.p rfl rfl rfl (P.move rfl) ?_
                  refine WL.split 78 rfl (fun hs78 => ?_) (fun hs78 => ?_)
                  ·
                    try simp only [decide_eq_true_eq, decide_eq_false_iff_not, beq_iff_eq, beq_eq_false_iff_ne, bne_iff_ne, bne_eq_false_iff_eq, Bool.not_eq_true', Bool.not_eq_false', ne_eq, Int.not_lt, Int.not_le] at hs78
                    refine WL.p rfl rfl rfl (P.fieldAddr fa_34_7 rfl) ?_
                    refine WL.p rfl rfl rfl (P.loadO 1 Tryz.isAgg4 rfl rfl rfl) ?_
                    refine WL.p rfl rfl rfl (P.fieldAddr fa_34_7 rfl) ?_
                    refine WL.p rfl rfl rfl (P.loadO 0 Tryz.isAgg4 rfl rfl rfl) ?_
                    refine WL.p rfl rfl rfl (P.eqB Tryz.underlying4 rfl rfl) ?_
                    refine WL.p rfl rfl rfl (P.pickT rfl rfl) ?_
                    refine WL.p rfl rfl rfl (P.move rfl) ?_
                    refine WL.split 85 rfl (fun hs85 => ?_) (fun hs85 => ?_)
                    ·
                      try simp only [decide_eq_true_eq, decide_eq_false_iff_not, beq_iff_eq, beq_eq_false_iff_ne, bne_iff_ne, bne_eq_false_iff_eq, Bool.not_eq_true', Bool.not_eq_false', ne_eq, Int.not_lt, Int.not_le] at hs85
                      refine WL.p rfl rfl rfl (P.fieldAddr fa_34_8 rfl) ?_
                      refine WL.p rfl rfl rfl (P.loadO 1 Tryz.isAgg9 rfl rfl rfl) ?_
                      refine WL.p rfl rfl rfl (P.fieldAddr fa_34_8 rfl) ?_
                      refine WL.p rfl rfl rfl (P.loadO 0 Tryz.isAgg9 rfl rfl rfl) ?_
                      refine WL.p rfl rfl rfl (P.cmps rfl rfl rfl) ?_
                      refine WL.p rfl rfl rfl (P.pickT rfl rfl) ?_
                      refine WL.p rfl rfl rfl (P.move rfl) ?_
                      refine WL.split 92 rfl (fun hs92 => ?_) (fun hs92 => ?_)
                      ·
                        try simp only [decide_eq_true_eq, decide_eq_false_iff_not, beq_iff_eq, beq_eq_false_iff_ne, bne_iff_ne, bne_eq_false_iff_eq, Bool.not_eq_true', Bool.not_eq_false', ne_eq, Int.not_lt, Int.not_le] at hs92
                        refine WL.p rfl rfl rfl (P.fieldAddr fa_34_9 rfl) ?_
                        refine WL.p rfl rfl rfl (P.loadO 1 Tryz.isAgg9 rfl rfl rfl) ?_
                        refine WL.p rfl rfl rfl (P.fieldAddr fa_34_9 rfl) ?_
                        refine WL.p rfl rfl rfl (P.loadO 0 Tryz.isAgg9 rfl rfl rfl) ?_
                        refine WL.p rfl rfl rfl (P.cmps rfl rfl rfl) ?_
                        refine WL.p rfl rfl rfl (P.pickT rfl rfl) ?_
                        refine WL.p rfl rfl rfl (P.move rfl) ?_
                        refine WL.split 99 rfl (fun hs99 => ?_) (fun hs99 => ?_)
                        ·
                          try simp only [decide_eq_true_eq, decide_eq_false_iff_not, beq_iff_eq, beq_eq_false_iff_ne, bne_iff_ne, bne_eq_false_iff_eq, Bool.not_eq_true', Bool.not_eq_false', ne_eq, Int.not_lt, Int.not_le] at hs99
                          refine WL.p rfl rfl rfl (P.fieldAddr fa_34_10 rfl) ?_
                          refine WL.p rfl rfl rfl (P.loadO 1 Tryz.isAgg3 rfl rfl rfl) ?_
                          refine WL.p rfl rfl rfl (P.fieldAddr fa_34_10 rfl) ?_
                          refine WL.p rfl rfl rfl (P.loadO 0 Tryz.isAgg3 rfl rfl rfl) ?_
                          refine WL.p rfl rfl rfl (P.cmp rfl rfl rfl) ?_
                          refine WL.p rfl rfl rfl (P.pickT rfl rfl) ?_
                          refine WL.p rfl rfl rfl (P.move rfl) ?_
                          refine WL.split 106 rfl (fun hs106 => ?_) (fun hs106 => ?_)
                          ·
                            try simp only [decide_eq_true_eq, decide_eq_false_iff_not, beq_iff_eq, beq_eq_false_iff_ne, bne_iff_ne, bne_eq_false_iff_eq, Bool.not_eq_true', Bool.not_eq_false', ne_eq, Int.not_lt, Int.not_le] at hs106
                            refine WL.p rfl rfl rfl (P.fieldAddr fa_34_11 rfl) ?_
                            refine WL.p rfl rfl rfl (P.loadO 1 Tryz.isAgg3 rfl rfl rfl) ?_
                            refine WL.p rfl rfl rfl (P.fieldAddr fa_34_11 rfl) ?_
                            refine WL.p rfl rfl rfl (P.loadO 0 Tryz.isAgg3 rfl rfl rfl) ?_
                            refine WL.p rfl rfl rfl (P.cmp rfl rfl rfl) ?_
                            refine WL.p rfl rfl rfl (P.pickT rfl rfl) ?_
                            refine WL.p rfl rfl rfl (P.assign rfl) ?_
                            refine WL.nil_ ?_
                            refine End.seq ?_
                            refine WC.ret ?_
                            refine End.ret1 rfl rfl ?_
                            exact fun w' hs' => RetV.of (by rw [sameL2 ‹_› ‹_› ‹_› ‹_› ‹_› ‹_› ‹_› ‹_› ‹_› ‹_› ‹_› eg]) hs'
                          ·
                            try simp only [decide_eq_true_eq, decide_eq_false_iff_not, beq_iff_eq, beq_eq_false_iff_ne, bne_iff_ne, bne_eq_false_iff_eq, Bool.not_eq_true', Bool.not_eq_false', ne_eq, Int.not_lt, Int.not_le] at hs106
                            refine WL.off rfl rfl ?_
                            refine WL.off rfl rfl ?_
                            refine WL.off rfl rfl ?_
                            refine WL.off rfl rfl ?_
                            refine WL.off rfl rfl ?_
                            refine WL.p rfl rfl rfl (P.pickF rfl rfl) ?_
                            refine WL.p rfl rfl rfl (P.assign rfl) ?_
                            refine WL.nil_ ?_
                            refine End.seq ?_
                            refine WC.ret ?_
                            refine End.ret1 rfl rfl ?_
                            exact fun w' hs' => RetV.of (by rw [decide_eq_false (fun e => hs106 (by rw [e]))]) hs'
                        ·
                          try simp only [decide_eq_true_eq, decide_eq_false_iff_not, beq_iff_eq, beq_eq_false_iff_ne, bne_iff_ne, bne_eq_false_iff_eq, Bool.not_eq_true', Bool.not_eq_false', ne_eq, Int.not_lt, Int.not_le] at hs99
                          refine WL.off rfl rfl ?_
                          refine WL.off rfl rfl ?_
                          refine WL.off rfl rfl ?_
                          refine WL.off rfl rfl ?_
                          refine WL.off rfl rfl ?_
                          refine WL.p rfl rfl rfl (P.pickF rfl rfl) ?_
                          refine WL.p rfl rfl rfl (P.move rfl) ?_
                          refine WL.off rfl rfl ?_
                          refine WL.off rfl rfl ?_
                          refine WL.off rfl rfl ?_
                          refine WL.off rfl rfl ?_
                          refine WL.off rfl rfl ?_
                          refine WL.p rfl rfl rfl (P.pickF rfl rfl) ?_
                          refine WL.p rfl rfl rfl (P.assign rfl) ?_
                          refine WL.nil_ ?_
                          refine End.seq ?_
                          refine WC.ret ?_
                          refine End.ret1 rfl rfl ?_
                          exact fun w' hs' => RetV.of (by rw [decide_eq_false (fun e => hs99 (by rw [e]))]) hs'
                      ·
                        try simp only [decide_eq_true_eq, decide_eq_false_iff_not, beq_iff_eq, beq_eq_false_iff_ne, bne_iff_ne, bne_eq_false_iff_eq, Bool.not_eq_true', Bool.not_eq_false', ne_eq, Int.not_lt, Int.not_le] at hs92
                        refine WL.off rfl rfl ?_
                        refine WL.off rfl rfl ?_
                        refine WL.off rfl rfl ?_
                        refine WL.off rfl rfl ?_
                        refine WL.off rfl rfl ?_
                        refine WL.p rfl rfl rfl (P.pickF rfl rfl) ?_
                        refine WL.p rfl rfl rfl (P.move rfl) ?_
                        refine WL.off rfl rfl ?_
                        refine WL.off rfl rfl ?_
                        refine WL.off rfl rfl ?_
                        refine WL.off rfl rfl ?_
                        refine WL.off rfl rfl ?_
                        refine WL.p rfl rfl rfl (P.pickF rfl rfl) ?_
                        refine WL.p rfl rfl rfl (P.move rfl) ?_
                        refine WL.off rfl rfl ?_
                        refine WL.off rfl rfl ?_
                        refine WL.off rfl rfl ?_
                        refine WL.off rfl rfl ?_
                        refine WL.off rfl rfl ?_
                        refine WL.p rfl rfl rfl (P.pickF rfl rfl) ?_
                        refine WL.p rfl rfl rfl (P.assign rfl) ?_
                        refine WL.nil_ ?_
                        refine End.seq ?_
                        refine WC.ret ?_
                        refine End.ret1 rfl rfl ?_
                        exact fun w' hs' => RetV.of (by rw [decide_eq_false (fun e => hs92 (by rw [e]))]) hs'
                    ·
                      try simp only [decide_eq_true_eq, decide_eq_false_iff_not, beq_iff_eq, beq_eq_false_iff_ne, bne_iff_ne, bne_eq_false_iff_eq, Bool.not_eq_true', Bool.not_eq_false', ne_eq, Int.not_lt, Int.not_le] at hs85
                      refine WL.off rfl rfl ?_
                      refine WL.off rfl rfl ?_
                      refine WL.off rfl rfl ?_
                      refine WL.off rfl rfl ?_
                      refine WL.off rfl rfl ?_
                      refine WL.p rfl rfl rfl (P.pickF rfl rfl) ?_
                      refine WL.p rfl rfl rfl (P.move rfl) ?_
                      refine WL.off rfl rfl ?_
                      refine WL.off rfl rfl ?_
                      refine WL.off rfl rfl ?_
                      refine WL.off rfl rfl ?_
                      refine WL.off rfl rfl ?_
                      refine WL.p rfl rfl rfl (P.pickF rfl rfl) ?_
                      refine WL.p rfl rfl rfl (P.move rfl) ?_
                      refine WL.off rfl rfl ?_
                      refine WL.off rfl rfl ?_
                      refine WL.off rfl rfl ?_
                      refine WL.off rfl rfl ?_
                      refine WL.off rfl rfl ?_
                      refine WL.p rfl rfl rfl (P.pickF rfl rfl) ?_
                      refine WL.p rfl rfl rfl (P.move rfl) ?_
                      refine WL.off rfl rfl ?_
                      refine WL.off rfl rfl ?_
                      refine WL.off rfl rfl ?_
                      refine WL.off rfl rfl ?_
                      refine WL.off rfl rfl ?_
                      refine WL.p rfl rfl rfl (P.pickF rfl rfl) ?_
                      refine WL.p rfl rfl rfl (P.assign rfl) ?_
                      refine WL.nil_ ?_
                      refine End.seq ?_
                      refine WC.ret ?_
                      refine End.ret1 rfl rfl ?_
                      exact fun w' hs' => RetV.of (by rw [decide_eq_false (fun e => hs85 (by rw [e]))]) hs'
                  ·
                    try simp only [decide_eq_true_eq, decide_eq_false_iff_not, beq_iff_eq, beq_eq_false_iff_ne, bne_iff_ne, bne_eq_false_iff_eq, Bool.not_eq_true', Bool.not_eq_false', ne_eq, Int.not_lt, Int.not_le] at hs78
                    refine WL.off rfl rfl ?_
                    refine WL.off rfl rfl ?_
                    refine WL.off rfl rfl ?_
                    refine WL.off rfl rfl ?_
                    refine WL.off rfl rfl ?_
                    refine WL.p rfl rfl rfl (P.pickF rfl rfl) ?_
                    refine WL.p rfl rfl rfl (P.move rfl) ?_
                    refine WL.off rfl rfl ?_
                    refine WL.off rfl rfl ?_
                    refine WL.off rfl rfl ?_
                    refine WL.off rfl rfl ?_
                    refine WL.off rfl rfl ?_
                    refine WL.p rfl rfl rfl (P.pickF rfl rfl) ?_
                    refine WL.p rfl rfl rfl (P.move rfl) ?_
                    refine WL.off rfl rfl ?_
                    refine WL.off rfl rfl ?_
                    refine WL.off rfl rfl ?_
                    refine WL.off rfl rfl ?_
                    refine WL.off rfl rfl ?_
                    refine WL.p rfl rfl rfl (P.pickF rfl rfl) ?_
                    refine WL.p rfl rfl rfl (P.move rfl) ?_
                    refine WL.off rfl rfl ?_
                    refine WL.off rfl rfl ?_
                    refine WL.off rfl rfl ?_
                    refine WL.off rfl rfl ?_
                    refine WL.off rfl rfl ?_
                    refine WL.p rfl rfl rfl (P.pickF rfl rfl) ?_
                    refine WL.p rfl rfl rfl (P.move rfl) ?_
                    refine WL.off rfl rfl ?_
                    refine WL.off rfl rfl ?_
                    refine WL.off rfl rfl ?_
                    refine WL.off rfl rfl ?_
                    refine WL.off rfl rfl ?_
                    refine WL.p rfl rfl rfl (P.pickF rfl rfl) ?_
                    refine WL.p rfl rfl rfl (P.assign rfl) ?_
                    refine WL.nil_ ?_
                    refine End.seq ?_
                    refine WC.ret ?_
                    refine End.ret1 rfl rfl ?_
                    exact fun w' hs' => RetV.of (by rw [decide_eq_false (fun e => hs78 (by rw [e]))]) hs'
                ·
                  try simp only [decide_eq_true_eq, decide_eq_false_iff_not, beq_iff_eq, beq_eq_false_iff_ne, bne_iff_ne, bne_eq_false_iff_eq, Bool.not_eq_true', Bool.not_eq_false', ne_eq, Int.not_lt, Int.not_le] at hs71
                  refine WL.off rfl rfl ?_
                  refine WL.off rfl rfl ?_
                  refine WL.off rfl rfl ?_
                  refine WL.off rfl rfl ?_
                  refine WL.off rfl rfl ?_
                  refine WL.p rfl rfl rfl (P.pickF rfl rfl) ?_
                  refine WL.p rfl rfl rfl (P.move rfl) ?_
                  refine WL.off rfl rfl ?_
                  refine WL.off rfl rfl ?_
                  refine WL.off rfl rfl ?_
                  refine WL.off rfl rfl ?_
                  refine WL.off rfl rfl ?_
                  refine WL.p rfl rfl rfl (P.pickF rfl rfl) ?_
                  refine WL.p rfl rfl rfl (P.move rfl) ?_
                  refine WL.off rfl rfl ?_
                  refine WL.off rfl rfl ?_
                  refine WL.off rfl rfl ?_
                  refine WL.off rfl rfl ?_
                  refine WL.off rfl rfl ?_
                  refine WL.p rfl rfl rfl (P.pickF rfl rfl) ?_
                  refine WL.p rfl rfl rfl (P.move rfl) ?_
                  refine WL.off rfl rfl ?_
                  refine WL.off rfl rfl ?_
                  refine WL.off rfl rfl ?_
                  refine WL.off rfl rfl ?_
                  refine WL.off rfl rfl ?_
                  refine WL.p rfl rfl rfl (P.pickF rfl rfl) ?_
                  refine WL.p rfl rfl rfl (P.move rfl) ?_
                  refine WL.off rfl rfl ?_
                  refine WL.off rfl rfl ?_
                  refine WL.off rfl rfl ?_
                  refine WL.off rfl rfl ?_
                  refine WL.off rfl rfl ?_
                  refine WL.p rfl rfl rfl (P.pickF rfl rfl) ?_
                  refine WL.p rfl rfl rfl (P.move rfl) ?_
                  refine WL.off rfl rfl ?_
                  refine WL.off rfl rfl ?_
                  refine WL.off rfl rfl ?_
                  refine WL.off rfl rfl ?_
                  refine WL.off rfl rfl ?_
                  refine WL.p rfl rfl rfl (P.pickF rfl rfl) ?_
                  refine WL.p rfl rfl rfl (P.assign rfl) ?_
                  refine WL.nil_ ?_
                  refine End.seq ?_
                  refine WC.ret ?_
                  refine End.ret1 rfl rfl ?_
                  exact fun w' hs' => RetV.of (by rw [decide_eq_false (fun e => hs71 (by rw [e]))]) hs'
              ·
                try simp only [decide_eq_true_eq, decide_eq_false_iff_not, beq_iff_eq, beq_eq_false_iff_ne, bne_iff_ne, bne_eq_false_iff_eq, Bool.not_eq_true', Bool.not_eq_false', ne_eq, Int.not_lt, Int.not_le] at hs64
                refine WL.off rfl rfl ?_
                refine WL.off rfl rfl ?_
                refine WL.off rfl rfl ?_
                refine WL.off rfl rfl ?_
                refine WL.off rfl rfl ?_
                refine WL.p rfl rfl rfl (P.pickF rfl rfl) ?_
                refine WL.p rfl rfl rfl (P.move rfl) ?_
                refine WL.off rfl rfl ?_
                refine WL.off rfl rfl ?_
                refine WL.off rfl rfl ?_
                refine WL.off rfl rfl ?_
                refine WL.off rfl rfl ?_
                refine WL.p rfl rfl rfl (P.pickF rfl rfl) ?_
                refine WL.p rfl rfl rfl (P.move rfl) ?_
                refine WL.off rfl rfl ?_
                refine WL.off rfl rfl ?_
                refine WL.off rfl rfl ?_
                refine WL.off rfl rfl ?_
                refine WL.off rfl rfl ?_
                refine WL.p rfl rfl rfl (P.pickF rfl rfl) ?_
                refine WL.p rfl rfl rfl (P.move rfl) ?_
                refine WL.off rfl rfl ?_
                refine WL.off rfl rfl ?_
                refine WL.off rfl rfl ?_
                refine WL.off rfl rfl ?_
                refine WL.off rfl rfl ?_
                refine WL.p rfl rfl rfl (P.pickF rfl rfl) ?_
                refine WL.p rfl rfl rfl (P.move rfl) ?_
                refine WL.off rfl rfl ?_
                refine WL.off rfl rfl ?_
                refine WL.off rfl rfl ?_
                refine WL.off rfl rfl ?_
                refine WL.off rfl rfl ?_
                refine WL.p rfl rfl rfl (P.pickF rfl rfl) ?_
                refine WL.p rfl rfl rfl (P.move rfl) ?_
                refine WL.off rfl rfl ?_
                refine WL.off rfl rfl ?_
                refine WL.off rfl rfl ?_
                refine WL.off rfl rfl ?_
                refine WL.off rfl rfl ?_
                refine WL.p rfl rfl rfl (P.pickF rfl rfl) ?_
                refine WL.p rfl rfl rfl (P.move rfl) ?_
                refine WL.off rfl rfl ?_
                refine WL.off rfl rfl ?_
                refine WL.off rfl rfl ?_
                refine WL.off rfl rfl ?_
                refine WL.off rfl rfl ?_
                refine WL.p rfl rfl rfl (P.pickF rfl rfl) ?_
                refine WL.p rfl rfl rfl (P.assign rfl) ?_
                refine WL.nil_ ?_
                refine End.seq ?_
                refine WC.ret ?_
                refine End.ret1 rfl rfl ?_
                exact fun w' hs' => RetV.of (by rw [decide_eq_false (fun e => hs64 (by rw [e]))]) hs'
            ·
              try simp only [decide_eq_true_eq, decide_eq_false_iff_not, beq_iff_eq, beq_eq_false_iff_ne, bne_iff_ne, bne_eq_false_iff_eq, Bool.not_eq_true', Bool.not_eq_false', ne_eq, Int.not_lt, Int.not_le] at hs57
              refine WL.off rfl rfl ?_
              refine WL.off rfl rfl ?_
              refine WL.off rfl rfl ?_
              refine WL.off rfl rfl ?_
              refine WL.off rfl rfl ?_
              refine WL.p rfl rfl rfl (P.pickF rfl rfl) ?_
              refine WL.p rfl rfl rfl (P.move rfl) ?_
              refine WL.off rfl rfl ?_
              refine WL.off rfl rfl ?_
              refine WL.off rfl rfl ?_
              refine WL.off rfl rfl ?_
              refine WL.off rfl rfl ?_
              refine WL.p rfl rfl rfl (P.pickF rfl rfl) ?_
              refine WL.p rfl rfl rfl (P.move rfl) ?_
              refine WL.off rfl rfl ?_
              refine WL.off rfl rfl ?_
              refine WL.off rfl rfl ?_
              refine WL.off rfl rfl ?_
              refine WL.off rfl rfl ?_
              refine WL.p rfl rfl rfl (P.pickF rfl rfl) ?_
              refine WL.p rfl rfl rfl (P.move rfl) ?_
              refine WL.off rfl rfl ?_
              refine WL.off rfl rfl ?_
              refine WL.off rfl rfl ?_
              refine WL.off rfl rfl ?_
              refine WL.off rfl rfl ?_
              refine WL.p rfl rfl rfl (P.pickF rfl rfl) ?_
              refine WL.p rfl rfl rfl (P.move rfl) ?_
              refine WL.off rfl rfl ?_
              refine WL.off rfl rfl ?_
              refine WL.off rfl rfl ?_
              refine WL.off rfl rfl ?_
              refine WL.off rfl rfl ?_
              refine WL.p rfl rfl rfl (P.pickF rfl rfl) ?_
              refine WL.p rfl rfl rfl (P.move rfl) ?_
              refine WL.off rfl rfl ?_
              refine WL.off rfl rfl ?_
              refine WL.off rfl rfl ?_
              refine WL.off rfl rfl ?_
              refine WL.off rfl rfl ?_
              refine WL.p rfl rfl rfl (P.pickF rfl rfl) ?_
              refine WL.p rfl rfl rfl (P.move rfl) ?_
              refine WL.off rfl rfl ?_
              refine WL.off rfl rfl ?_
              refine WL.off rfl rfl ?_
              refine WL.off rfl rfl ?_
              refine WL.off rfl rfl ?_
              refine WL.p rfl rfl rfl (P.pickF rfl rfl) ?_
              refine WL.p rfl rfl rfl (P.move rfl) ?_
              refine WL.off rfl rfl ?_
              refine WL.off rfl rfl ?_
              refine WL.off rfl rfl ?_
              refine WL.off rfl rfl ?_
              refine WL.off rfl rfl ?_
              refine WL.p rfl rfl rfl (P.pickF rfl rfl) ?_
              refine WL.p rfl rfl rfl (P.assign rfl) ?_
              refine WL.nil_ ?_
              refine End.seq ?_
              refine WC.ret ?_
              refine End.ret1 rfl rfl ?_
              exact fun w' hs' => RetV.of (by rw [decide_eq_false (fun e => hs57 (by rw [e]))]) hs'
          ·
            try simp only [decide_eq_true_eq, decide_eq_false_iff_not, beq_iff_eq, beq_eq_false_iff_ne, bne_iff_ne, bne_eq_false_iff_eq, Bool.not_eq_true', Bool.not_eq_false', ne_eq, Int.not_lt, Int.not_le] at hs50
            refine WL.off rfl rfl ?_
            refine WL.off rfl rfl ?_
            refine WL.off rfl rfl ?_
            refine WL.off rfl rfl ?_
            refine WL.off rfl rfl ?_
            refine WL.p rfl rfl rfl (P.pickF rfl rfl) ?_
            refine WL.p rfl rfl rfl (P.move rfl) ?_
            refine WL.off rfl rfl ?_
            refine WL.off rfl rfl ?_
            refine WL.off rfl rfl ?_
            refine WL.off rfl rfl ?_
            refine WL.off rfl rfl ?_
            refine WL.p rfl rfl rfl (P.pickF rfl rfl) ?_
            refine WL.p rfl rfl rfl (P.move rfl) ?_
            refine WL.off rfl rfl ?_
            refine WL.off rfl rfl ?_
            refine WL.off rfl rfl ?_
            refine WL.off rfl rfl ?_
            refine WL.off rfl rfl ?_
            refine WL.p rfl rfl rfl (P.pickF rfl rfl) ?_
            refine WL.p rfl rfl rfl (P.move rfl) ?_
            refine WL.off rfl rfl ?_
            refine WL.off rfl rfl ?_
            refine WL.off rfl rfl ?_
            refine WL.off rfl rfl ?_
            refine WL.off rfl rfl ?_
            refine WL.p rfl rfl rfl (P.pickF rfl rfl) ?_
            refine WL.p rfl rfl rfl (P.move rfl) ?_
            refine WL.off rfl rfl ?_
            refine WL.off rfl rfl ?_
            refine WL.off rfl rfl ?_
            refine WL.off rfl rfl ?_
            refine WL.off rfl rfl ?_
            refine WL.p rfl rfl rfl (P.pickF rfl rfl) ?_
            refine WL.p rfl rfl rfl (P.move rfl) ?_
            refine WL.off rfl rfl ?_
            refine WL.off rfl rfl ?_
            refine WL.off rfl rfl ?_
            refine WL.off rfl rfl ?_
            refine WL.off rfl rfl ?_
            refine WL.p rfl rfl rfl (P.pickF rfl rfl) ?_
            refine WL.p rfl rfl rfl (P.move rfl) ?_
            refine WL.off rfl rfl ?_
            refine WL.off rfl rfl ?_
            refine WL.off rfl rfl ?_
            refine WL.off rfl rfl ?_
            refine WL.off rfl rfl ?_
            refine WL.p rfl rfl rfl (P.pickF rfl rfl) ?_
            refine WL.p rfl rfl rfl (P.move rfl) ?_
            refine WL.off rfl rfl ?_
            refine WL.off rfl rfl ?_
            refine WL.off rfl rfl ?_
            refine WL.off rfl rfl ?_
            refine WL.off rfl rfl ?_
            refine WL.p rfl rfl rfl (P.pickF rfl rfl) ?_
            refine WL.p rfl rfl rfl (P.move rfl) ?_
            refine WL.off rfl rfl ?_
            refine WL.off rfl rfl ?_
            refine WL.off rfl rfl ?_
            refine WL.off rfl rfl ?_
            refine WL.off rfl rfl ?_
            refine WL.p rfl rfl rfl (P.pickF rfl rfl) ?_
            refine WL.p rfl rfl rfl (P.assign rfl) ?_
            refine WL.nil_ ?_
            refine End.seq ?_
            refine WC.ret ?_
            refine End.ret1 rfl rfl ?_
            exact fun w' hs' => RetV.of (by rw [decide_eq_false (fun e => hs50 (by rw [e]))]) hs'
        ·
          try simp only [decide_eq_true_eq, decide_eq_false_iff_not, beq_iff_eq, beq_eq_false_iff_ne, bne_iff_ne, bne_eq_false_iff_eq, Bool.not_eq_true', Bool.not_eq_false', ne_eq, Int.not_lt, Int.not_le] at hs43
          refine WL.off rfl rfl ?_
          refine WL.off rfl rfl ?_
          refine WL.off rfl rfl ?_
          refine WL.off rfl rfl ?_
          refine WL.off rfl rfl ?_
          refine WL.p rfl rfl rfl (P.pickF rfl rfl) ?_
          refine WL.p rfl rfl rfl (P.move rfl) ?_
          refine WL.off rfl rfl ?_
          refine WL.off rfl rfl ?_
          refine WL.off rfl rfl ?_
          refine WL.off rfl rfl ?_
          refine WL.off rfl rfl ?_
          refine WL.p rfl rfl rfl (P.pickF rfl rfl) ?_
          refine WL.p rfl rfl rfl (P.move rfl) ?_
          refine WL.off rfl rfl ?_
          refine WL.off rfl rfl ?_
          refine WL.off rfl rfl ?_
          refine WL.off rfl rfl ?_
          refine WL.off rfl rfl ?_
          refine WL.p rfl rfl rfl (P.pickF rfl rfl) ?_
          refine WL.p rfl rfl rfl (P.move rfl) ?_
          refine WL.off rfl rfl ?_
          refine WL.off rfl rfl ?_
          refine WL.off rfl rfl ?_
          refine WL.off rfl rfl ?_
          refine WL.off rfl rfl ?_
          refine WL.p rfl rfl rfl (P.pickF rfl rfl) ?_
          refine WL.p rfl rfl rfl (P.move rfl) ?_
          refine WL.off rfl rfl ?_
          refine WL.off rfl rfl ?_
          refine WL.off rfl rfl ?_
          refine WL.off rfl rfl ?_
          refine WL.off rfl rfl ?_
          refine WL.p rfl rfl rfl (P.pickF rfl rfl) ?_
          refine WL.p rfl rfl rfl (P.move rfl) ?_
          refine WL.off rfl rfl ?_
          refine WL.off rfl rfl ?_
          refine WL.off rfl rfl ?_
          refine WL.off rfl rfl ?_
          refine WL.off rfl rfl ?_
          refine WL.p rfl rfl rfl (P.pickF rfl rfl) ?_
          refine WL.p rfl rfl rfl (P.move rfl) ?_
          refine WL.off rfl rfl ?_
          refine WL.off rfl rfl ?_
          refine WL.off rfl rfl ?_
          refine WL.off rfl rfl ?_
          refine WL.off rfl rfl ?_
          refine WL.p rfl rfl rfl (P.pickF rfl rfl) ?_
          refine WL.p rfl rfl rfl (P.move rfl) ?_
          refine WL.off rfl rfl ?_
          refine WL.off rfl rfl ?_
          refine WL.off rfl rfl ?_
          refine WL.off rfl rfl ?_
          refine WL.off rfl rfl ?_
          refine WL.p rfl rfl rfl (P.pickF rfl rfl) ?_
          refine WL.p rfl rfl rfl (P.move rfl) ?_
          refine WL.off rfl rfl ?_
          refine WL.off rfl rfl ?_
          refine WL.off rfl rfl ?_
          refine WL.off rfl rfl ?_
          refine WL.off rfl rfl ?_
          refine WL.p rfl rfl rfl (P.pickF rfl rfl) ?_
          refine WL.p rfl rfl rfl (P.move rfl) ?_
          refine WL.off rfl rfl ?_
          refine WL.off rfl rfl ?_
          refine WL.off rfl rfl ?_
          refine WL.off rfl rfl ?_
          refine WL.off rfl rfl ?_
          refine WL.p rfl rfl rfl (P.pickF rfl rfl) ?_
          refine WL.p rfl rfl rfl (P.assign rfl) ?_
          refine WL.nil_ ?_
          refine End.seq ?_
          refine WC.ret ?_
          refine End.ret1 rfl rfl ?_
          exact fun w' hs' => RetV.of (by rw [decide_eq_false (fun e => hs43 (by rw [e]))]) hs'
      ·
        try simp only [decide_eq_true_eq, decide_eq_false_iff_not, beq_iff_eq, beq_eq_false_iff_ne, bne_iff_ne, bne_eq_false_iff_eq, Bool.not_eq_true', Bool.not_eq_false', ne_eq, Int.not_lt, Int.not_le] at hs36
        refine WL.off rfl rfl ?_
        refine WL.off rfl rfl ?_
        refine WL.off rfl rfl ?_
        refine WL.off rfl rfl ?_
        refine WL.off rfl rfl ?_
        refine WL.p rfl rfl rfl (P.pickF rfl rfl) ?_
        refine WL.p rfl rfl rfl (P.move rfl) ?_
        refine WL.off rfl rfl ?_
        refine WL.off rfl rfl ?_
        refine WL.off rfl rfl ?_
        refine WL.off rfl rfl ?_
        refine WL.off rfl rfl ?_
        refine WL.p rfl rfl rfl (P.pickF rfl rfl) ?_
        refine WL.p rfl rfl rfl (P.move rfl) ?_
        refine WL.off rfl rfl ?_
        refine WL.off rfl rfl ?_
        refine WL.off rfl rfl ?_
        refine WL.off rfl rfl ?_
        refine WL.off rfl rfl ?_
        refine WL.p rfl rfl rfl (P.pickF rfl rfl) ?_
        refine WL.p rfl rfl rfl (P.move rfl) ?_
        refine WL.off rfl rfl ?_
        refine WL.off rfl rfl ?_
        refine WL.off rfl rfl ?_
        refine WL.off rfl rfl ?_
        refine WL.off rfl rfl ?_
        refine WL.p rfl rfl rfl (P.pickF rfl rfl) ?_
        refine WL.p rfl rfl rfl (P.move rfl) ?_
        refine WL.off rfl rfl ?_
        refine WL.off rfl rfl ?_
        refine WL.off rfl rfl ?_
        refine WL.off rfl rfl ?_
        refine WL.off rfl rfl ?_
        refine WL.p rfl rfl rfl (P.pickF rfl rfl) ?_
        refine WL.p rfl rfl rfl (P.move rfl) ?_
        refine WL.off rfl rfl ?_
        refine WL.off rfl rfl ?_
        refine WL.off rfl rfl ?_
        refine WL.off rfl rfl ?_
        refine WL.off rfl rfl ?_
        refine WL.p rfl rfl rfl (P.pickF rfl rfl) ?_
        refine WL.p rfl rfl rfl (P.move rfl) ?_
        refine WL.off rfl rfl ?_
        refine WL.off rfl rfl ?_
        refine WL.off rfl rfl ?_
        refine WL.off rfl rfl ?_
        refine WL.off rfl rfl ?_
        refine WL.p rfl rfl rfl (P.pickF rfl rfl) ?_
        refine WL.p rfl rfl rfl (P.move rfl) ?_
        refine WL.off rfl rfl ?_
        refine WL.off rfl rfl ?_
        refine WL.off rfl rfl ?_
        refine WL.off rfl rfl ?_
        refine WL.off rfl rfl ?_
        refine WL.p rfl rfl rfl (P.pickF rfl rfl) ?_
        refine WL.p rfl rfl rfl (P.move rfl) ?_
        refine WL.off rfl rfl ?_
        refine WL.off rfl rfl ?_
        refine WL.off rfl rfl ?_
        refine WL.off rfl rfl ?_
        refine WL.off rfl rfl ?_
        refine WL.p rfl rfl rfl (P.pickF rfl rfl) ?_
        refine WL.p rfl rfl rfl (P.move rfl) ?_
        refine WL.off rfl rfl ?_
        refine WL.off rfl rfl ?_
        refine WL.off rfl rfl ?_
        refine WL.off rfl rfl ?_
        refine WL.off rfl rfl ?_
        refine WL.p rfl rfl rfl (P.pickF rfl rfl) ?_
        refine WL.p rfl rfl rfl (P.move rfl) ?_
        refine WL.off rfl rfl ?_
        refine WL.off rfl rfl ?_
        refine WL.off rfl rfl ?_
        refine WL.off rfl rfl ?_
        refine WL.off rfl rfl ?_
        refine WL.p rfl rfl rfl (P.pickF rfl rfl) ?_
        refine WL.p rfl rfl rfl (P.assign rfl) ?_
        refine WL.nil_ ?_
        refine End.seq ?_
        refine WC.ret ?_
        refine End.ret1 rfl rfl ?_
        exact fun w' hs' => RetV.of (by rw [decide_eq_false (fun e => hs36 (by rw [e]))]) hs'

end Go.Proofs.YtlkkiimmangplaaGreatDoor
