/- RollIn and Roll. -/
import Derived.Test.YtlkkiimmangplaaGreatDoorP12
namespace Go.Proofs.YtlkkiimmangplaaGreatDoor
open Go.RowKit
set_option linter.unusedVariables false
set_option linter.unusedSimpArgs false

/-- What an own row's value looks like. -/
theorem row_shape {w0 w : World} {H : List It} {j n : Nat} {e sz : Nat} {v : Value} {xs : List Value} (hs : St w0 H w) (hj : H[j]? = some (.row e sz v n xs)) : ∃ A c, v = .slice A n c ∧ ((A = none ∧ n = 0) ∨ ∃ g, A = some ⟨g, 0, none⟩) := by
  rcases (hs.ok j _ hj).2 with ⟨rfl, rfl⟩ | ⟨g, cap, _, rfl, _⟩
  · exact ⟨_, _, rfl, .inl ⟨rfl, rfl⟩⟩
  · exact ⟨_, _, rfl, .inr ⟨g, rfl⟩⟩
theorem fold_ok {e : E} {va vg : Value} {A0 A9 : Option Addr} {c0 c9 : Nat} {xs ls : List Int} {w : World} {last : Int} {now gone : List Int} (hP : foldP e xs ls = .ok (last, now, gone)) (hg : Good w) (ha : EntAt w e va vg) (hr : Sl encI 1 w A0 xs) (hr9 : Sl encI 1 w A9 ls) (hx : xs.length ≤ 100) (hls : ls.length ≤ 100) :
    Calls Tryz.prog 93 #[.agg (e.cells va vg), .slice A0 xs.length c0, .slice A9 ls.length c9] w (Ret w (fun p : Option Addr × Nat × Value × It => (∀ B w', St B [.row 3 1 p.2.2.1 gone.length (ints gone), p.2.2.2] w' → Sl encI 1 w' p.1 now) ∧ now.length ≤ p.2.1 ∧ now.length ≤ 1000 ∧ gone.length ≤ 1000)
      (fun p => .tuple #[.agg ({ e with last := last }.cells va vg), .slice p.1 now.length p.2.1, p.2.2.1, .int .i64 0]) (fun p => [.row 3 1 p.2.2.1 gone.length (ints gone), p.2.2.2])) := by
  have h := fold_any e va vg A0 A9 c0 c9 xs ls w hg ha hr hr9 hx hls
  rw [hP] at h
  exact h
theorem fold_err {e : E} {va vg : Value} {A0 A9 : Option Addr} {c0 c9 : Nat} {xs ls : List Int} {w : World} {c : Int} (hP : foldP e xs ls = .error c) (hg : Good w) (ha : EntAt w e va vg) (hr : Sl encI 1 w A0 xs) (hr9 : Sl encI 1 w A9 ls) (hx : xs.length ≤ 100) (hls : ls.length ≤ 100) :
    Calls Tryz.prog 93 #[.agg (e.cells va vg), .slice A0 xs.length c0, .slice A9 ls.length c9] w (RetV w (.tuple #[.agg (E.zero.cells vnil vnil), vnil, vnil, .int .i64 c])) := by
  have h := fold_any e va vg A0 A9 c0 c9 xs ls w hg ha hr hr9 hx hls
  rw [hP] at h
  exact h

set_option maxRecDepth 100000 in
theorem rollIn_err (e : E) (va vg : Value) (A0 : Option Addr) (c0 : Nat) (xs : List Int) (n c : Int) (w : World) (hg : Good w) (ha : EntAt w e va vg) (hr : Sl encI 1 w A0 xs) (hx : xs.length ≤ 100) (hP : foldP e xs [n] = .error c) :
    Calls Tryz.prog 36 #[.agg (e.cells va vg), .slice A0 xs.length c0, .int .i64 n] w (RetV w (.tuple #[.agg (E.zero.cells vnil vnil), vnil, .int .i64 c])) := by
  have ha0 := ha
  obtain ⟨⟨A1, c1, rfl, hc1, hr1⟩, ⟨A2, c2, rfl, hc2, hr2⟩⟩ := ha
  refine enter Tryz.func36 rfl Tryz.ntmps36 rfl ?_
  refine WC.seq ?_
  refine WC.region ?_
  refine WL.box rfl rfl rfl (fun b3 => ?_)
  refine WL.alloc Tryz.zeroValue34 rfl rfl (fun b6 => ?_)
  refine WL.p rfl rfl rfl (P.assign rfl) ?_
  refine WL.p rfl rfl rfl (P.assign rfl) ?_
  refine WL.nil_ ?_
  refine End.seq ?_
  refine WC.seq ?_
  refine WC.region ?_
  refine WL.p rfl rfl rfl (P.loadW 1 Tryz.isAgg34 Tryz.sizeOf34 rfl rfl rfl) ?_
  refine WL.p rfl rfl rfl (P.move rfl) ?_
  refine WL.p rfl rfl rfl (P.move rfl) ?_
  refine WL.row Tryz.underlying22 Tryz.sizeOf3 Tryz.zeroValue3 rfl rfl rfl rfl rfl rfl rfl rfl rfl (fun b17 => ?_)
  refine WL.callv (ent_of Tryz.func93 rfl rfl) rfl rfl rfl (fun w hs => fold_err (ls := [n]) (c0 := c0) (c9 := 1) hP (hg.st hs) (ha0.st hs) (hr.st hs) (slI_row hs (j := 0) (xs := [n]) rfl rfl (by simp)) hx (by simp)) ?_
  refine WL.p rfl rfl rfl (P.move rfl) ?_
  refine WL.p rfl rfl rfl (P.extract rfl rfl) ?_
  refine WL.p rfl rfl rfl (P.extract rfl rfl) ?_
  refine WL.p rfl rfl rfl (P.extract rfl rfl) ?_
  refine WL.p rfl rfl rfl (P.extract rfl rfl) ?_
  refine WL.alloc Tryz.zeroValue34 rfl rfl (fun b9 => ?_)
  refine WL.storeW 0 Tryz.sizeOf34 rfl rfl rfl rfl rfl rfl rfl ?_
  refine WL.p rfl rfl rfl (P.assign rfl) ?_
  refine WL.p rfl rfl rfl (P.assign rfl) ?_
  refine WL.p rfl rfl rfl (P.assign rfl) ?_
  refine WL.nil_ ?_
  refine End.seq ?_
  refine WC.seq ?_
  refine WC.region ?_
  refine WL.p rfl rfl rfl (P.loadW 0 Tryz.isAgg34 Tryz.sizeOf34 rfl rfl rfl) ?_
  refine WL.p rfl rfl rfl (P.move rfl) ?_
  refine WL.p rfl rfl rfl (P.move rfl) ?_
  refine WL.storeW 2 Tryz.sizeOf34 rfl rfl rfl rfl rfl rfl rfl ?_
  refine WL.p rfl rfl rfl (P.assign rfl) ?_
  refine WL.p rfl rfl rfl (P.assign rfl) ?_
  refine WL.nil_ ?_
  refine End.seq ?_
  refine WC.ret ?_
  refine End.retCTT 2 rfl Tryz.isAgg34 Tryz.sizeOf34 rfl rfl rfl rfl rfl ?_
  exact fun w' hs' => RetV.of rfl hs'

set_option maxRecDepth 100000 in
theorem rollIn_ok (e : E) (va vg : Value) (A0 : Option Addr) (c0 : Nat) (xs : List Int) (n last : Int) (now gone : List Int) (w : World) (hg : Good w) (ha : EntAt w e va vg) (hr : Sl encI 1 w A0 xs) (hx : xs.length ≤ 100) (hP : foldP e xs [n] = .ok (last, now, gone)) :
    Calls Tryz.prog 36 #[.agg (e.cells va vg), .slice A0 xs.length c0, .int .i64 n] w (Ret w (fun p : Option Addr × Nat => gone.length ≤ 1000 ∧ ((p.1 = none ∧ gone.length = 0) ∨ ∃ g, p.1 = some ⟨g, 0, none⟩)) (fun p => .tuple #[.agg ({ e with last := last }.cells va vg), .slice p.1 gone.length p.2, .int .i64 0]) (fun p => [.row 3 1 (.slice p.1 gone.length p.2) gone.length (ints gone)])) := by
  have ha0 := ha
  obtain ⟨⟨A1, c1, rfl, hc1, hr1⟩, ⟨A2, c2, rfl, hc2, hr2⟩⟩ := ha
  refine enter Tryz.func36 rfl Tryz.ntmps36 rfl ?_
  refine WC.seq ?_
  refine WC.region ?_
  refine WL.box rfl rfl rfl (fun b3 => ?_)
  refine WL.alloc Tryz.zeroValue34 rfl rfl (fun b6 => ?_)
  refine WL.p rfl rfl rfl (P.assign rfl) ?_
  refine WL.p rfl rfl rfl (P.assign rfl) ?_
  refine WL.nil_ ?_
  refine End.seq ?_
  refine WC.seq ?_
  refine WC.region ?_
  refine WL.p rfl rfl rfl (P.loadW 1 Tryz.isAgg34 Tryz.sizeOf34 rfl rfl rfl) ?_
  refine WL.p rfl rfl rfl (P.move rfl) ?_
  refine WL.p rfl rfl rfl (P.move rfl) ?_
  refine WL.row Tryz.underlying22 Tryz.sizeOf3 Tryz.zeroValue3 rfl rfl rfl rfl rfl rfl rfl rfl rfl (fun b17 => ?_)
  refine WL.callx (ent_of Tryz.func93 rfl rfl) rfl rfl rfl (fun w hs => fold_ok (ls := [n]) (c0 := c0) (c9 := 1) hP (hg.st hs) (ha0.st hs) (hr.st hs) (slI_row hs (j := 0) (xs := [n]) rfl rfl (by simp)) hx (by simp)) (fun p hp => ?_)
  refine WL.p rfl rfl rfl (P.move rfl) ?_
  refine WL.p rfl rfl rfl (P.extract rfl rfl) ?_
  refine WL.p rfl rfl rfl (P.extract rfl rfl) ?_
  refine WL.p rfl rfl rfl (P.extract rfl rfl) ?_
  refine WL.p rfl rfl rfl (P.extract rfl rfl) ?_
  refine WL.alloc Tryz.zeroValue34 rfl rfl (fun b9 => ?_)
  refine WL.storeW 0 Tryz.sizeOf34 rfl rfl rfl rfl rfl rfl rfl ?_
  refine WL.p rfl rfl rfl (P.assign rfl) ?_
  refine WL.p rfl rfl rfl (P.assign rfl) ?_
  refine WL.p rfl rfl rfl (P.assign rfl) ?_
  refine WL.nil_ ?_
  refine End.seq ?_
  refine WC.seq ?_
  refine WC.region ?_
  refine WL.p rfl rfl rfl (P.loadW 0 Tryz.isAgg34 Tryz.sizeOf34 rfl rfl rfl) ?_
  refine WL.p rfl rfl rfl (P.move rfl) ?_
  refine WL.p rfl rfl rfl (P.move rfl) ?_
  refine WL.storeW 4 Tryz.sizeOf34 rfl rfl rfl rfl rfl rfl rfl ?_
  refine WL.p rfl rfl rfl (P.assign rfl) ?_
  refine WL.p rfl rfl rfl (P.assign rfl) ?_
  refine WL.nil_ ?_
  refine End.seq ?_
  refine WC.ret ?_
  refine End.retCTT 4 rfl Tryz.isAgg34 Tryz.sizeOf34 rfl rfl rfl rfl rfl ?_
  intro w' hs'
  obtain ⟨A, c, hv, hA⟩ := row_shape hs' (j := 1) rfl
  rw [hv] at hs'
  exact ⟨(A, c), ⟨hp.2.2.2, hA⟩, by rw [show _ = p.2.2.1 from rfl, hv]; rfl, hs'.sel [1] rfl⟩

set_option maxRecDepth 100000 in
theorem rollF_err (e : E) (va vg : Value) (A0 : Option Addr) (c0 : Nat) (xs : List Int) (A9 : Option Addr) (c9 : Nat) (ls : List Int) (c : Int) (w : World) (hg : Good w) (ha : EntAt w e va vg) (hr : Sl encI 1 w A0 xs) (hx : xs.length ≤ 100) (hr9 : Sl encI 1 w A9 ls) (hls : ls.length ≤ 100) (hP : foldP e xs ls = .error c) :
    Calls Tryz.prog 30 #[.agg (e.cells va vg), .slice A0 xs.length c0, .slice A9 ls.length c9] w (RetV w (.tuple #[.agg (E.zero.cells vnil vnil), vnil, .int .i64 c])) := by
  have ha0 := ha
  obtain ⟨⟨A1, c1, rfl, hc1, hr1⟩, ⟨A2, c2, rfl, hc2, hr2⟩⟩ := ha
  refine enter Tryz.func30 rfl Tryz.ntmps30 rfl ?_
  refine WC.seq ?_
  refine WC.region ?_
  refine WL.box rfl rfl rfl (fun b3 => ?_)
  refine WL.alloc Tryz.zeroValue34 rfl rfl (fun b6 => ?_)
  refine WL.p rfl rfl rfl (P.assign rfl) ?_
  refine WL.p rfl rfl rfl (P.assign rfl) ?_
  refine WL.nil_ ?_
  refine End.seq ?_
  refine WC.seq ?_
  refine WC.region ?_
  refine WL.p rfl rfl rfl (P.loadW 1 Tryz.isAgg34 Tryz.sizeOf34 rfl rfl rfl) ?_
  refine WL.p rfl rfl rfl (P.move rfl) ?_
  refine WL.p rfl rfl rfl (P.move rfl) ?_
  refine WL.callv (ent_of Tryz.func93 rfl rfl) rfl rfl rfl (fun w hs => fold_err hP (hg.st hs) (ha0.st hs) (hr.st hs) (hr9.st hs) hx hls) ?_
  refine WL.p rfl rfl rfl (P.move rfl) ?_
  refine WL.p rfl rfl rfl (P.extract rfl rfl) ?_
  refine WL.p rfl rfl rfl (P.extract rfl rfl) ?_
  refine WL.p rfl rfl rfl (P.extract rfl rfl) ?_
  refine WL.p rfl rfl rfl (P.extract rfl rfl) ?_
  refine WL.alloc Tryz.zeroValue34 rfl rfl (fun b9 => ?_)
  refine WL.storeW 0 Tryz.sizeOf34 rfl rfl rfl rfl rfl rfl rfl ?_
  refine WL.p rfl rfl rfl (P.assign rfl) ?_
  refine WL.p rfl rfl rfl (P.assign rfl) ?_
  refine WL.p rfl rfl rfl (P.assign rfl) ?_
  refine WL.nil_ ?_
  refine End.seq ?_
  refine WC.seq ?_
  refine WC.region ?_
  refine WL.p rfl rfl rfl (P.loadW 0 Tryz.isAgg34 Tryz.sizeOf34 rfl rfl rfl) ?_
  refine WL.p rfl rfl rfl (P.move rfl) ?_
  refine WL.p rfl rfl rfl (P.move rfl) ?_
  refine WL.storeW 1 Tryz.sizeOf34 rfl rfl rfl rfl rfl rfl rfl ?_
  refine WL.p rfl rfl rfl (P.assign rfl) ?_
  refine WL.p rfl rfl rfl (P.assign rfl) ?_
  refine WL.nil_ ?_
  refine End.seq ?_
  refine WC.ret ?_
  refine End.retCTT 1 rfl Tryz.isAgg34 Tryz.sizeOf34 rfl rfl rfl rfl rfl ?_
  exact fun w' hs' => RetV.of rfl hs'

set_option maxRecDepth 100000 in
theorem rollF_ok (e : E) (va vg : Value) (A0 : Option Addr) (c0 : Nat) (xs : List Int) (A9 : Option Addr) (c9 : Nat) (ls : List Int) (last : Int) (now gone : List Int) (w : World) (hg : Good w) (ha : EntAt w e va vg) (hr : Sl encI 1 w A0 xs) (hx : xs.length ≤ 100) (hr9 : Sl encI 1 w A9 ls) (hls : ls.length ≤ 100) (hP : foldP e xs ls = .ok (last, now, gone)) :
    Calls Tryz.prog 30 #[.agg (e.cells va vg), .slice A0 xs.length c0, .slice A9 ls.length c9] w (Ret w (fun p : Option Addr × Nat × Value × It => (∀ B w', St B [.row 3 1 p.2.2.1 gone.length (ints gone), p.2.2.2] w' → Sl encI 1 w' p.1 now) ∧ now.length ≤ p.2.1 ∧ now.length ≤ 1000) (fun p => .tuple #[.agg ({ e with last := last }.cells va vg), .slice p.1 now.length p.2.1, .int .i64 0]) (fun p => [.row 3 1 p.2.2.1 gone.length (ints gone), p.2.2.2])) := by
  have ha0 := ha
  obtain ⟨⟨A1, c1, rfl, hc1, hr1⟩, ⟨A2, c2, rfl, hc2, hr2⟩⟩ := ha
  refine enter Tryz.func30 rfl Tryz.ntmps30 rfl ?_
  refine WC.seq ?_
  refine WC.region ?_
  refine WL.box rfl rfl rfl (fun b3 => ?_)
  refine WL.alloc Tryz.zeroValue34 rfl rfl (fun b6 => ?_)
  refine WL.p rfl rfl rfl (P.assign rfl) ?_
  refine WL.p rfl rfl rfl (P.assign rfl) ?_
  refine WL.nil_ ?_
  refine End.seq ?_
  refine WC.seq ?_
  refine WC.region ?_
  refine WL.p rfl rfl rfl (P.loadW 1 Tryz.isAgg34 Tryz.sizeOf34 rfl rfl rfl) ?_
  refine WL.p rfl rfl rfl (P.move rfl) ?_
  refine WL.p rfl rfl rfl (P.move rfl) ?_
  refine WL.callx (ent_of Tryz.func93 rfl rfl) rfl rfl rfl (fun w hs => fold_ok hP (hg.st hs) (ha0.st hs) (hr.st hs) (hr9.st hs) hx hls) (fun p hp => ?_)
  refine WL.p rfl rfl rfl (P.move rfl) ?_
  refine WL.p rfl rfl rfl (P.extract rfl rfl) ?_
  refine WL.p rfl rfl rfl (P.extract rfl rfl) ?_
  refine WL.p rfl rfl rfl (P.extract rfl rfl) ?_
  refine WL.p rfl rfl rfl (P.extract rfl rfl) ?_
  refine WL.alloc Tryz.zeroValue34 rfl rfl (fun b9 => ?_)
  refine WL.storeW 0 Tryz.sizeOf34 rfl rfl rfl rfl rfl rfl rfl ?_
  refine WL.p rfl rfl rfl (P.assign rfl) ?_
  refine WL.p rfl rfl rfl (P.assign rfl) ?_
  refine WL.p rfl rfl rfl (P.assign rfl) ?_
  refine WL.nil_ ?_
  refine End.seq ?_
  refine WC.seq ?_
  refine WC.region ?_
  refine WL.p rfl rfl rfl (P.loadW 0 Tryz.isAgg34 Tryz.sizeOf34 rfl rfl rfl) ?_
  refine WL.p rfl rfl rfl (P.move rfl) ?_
  refine WL.p rfl rfl rfl (P.move rfl) ?_
  refine WL.storeW 3 Tryz.sizeOf34 rfl rfl rfl rfl rfl rfl rfl ?_
  refine WL.p rfl rfl rfl (P.assign rfl) ?_
  refine WL.p rfl rfl rfl (P.assign rfl) ?_
  refine WL.nil_ ?_
  refine End.seq ?_
  refine WC.ret ?_
  refine End.retCTT 3 rfl Tryz.isAgg34 Tryz.sizeOf34 rfl rfl rfl rfl rfl ?_
  exact fun w' hs' => ⟨p, ⟨hp.1, hp.2.1, hp.2.2.1⟩, rfl, hs'.sel [1, 2] rfl⟩

end Go.Proofs.YtlkkiimmangplaaGreatDoor
