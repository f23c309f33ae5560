/- Parts: P35, P36, P29, P30, P27, P31, P32, P33, P34, P38, P39, P40, P41. -/
import Derived.Test.YtlkkiimmangplaaGreatDoorRA3
import Derived.Lib.ItoaLen
/- The fields of data sets through the codec. -/
namespace Go.Proofs.YtlkkiimmangplaaGreatDoor
open Go.RowKit
set_option linter.unusedVariables false
set_option linter.unusedSimpArgs false

def numsOut (out : ByteArray) (l : List Int) : ByteArray := l.foldl (fun s x => s ++ strOfNums (encF 9 x)) out
theorem numsOut_snoc {l : List Int} {k : Nat} {x : Int} (h : l[k]? = some x) (out : ByteArray) : numsOut out (l.take (k + 1)) = numsOut out (l.take k) ++ strOfNums (encF 9 x) := by rw [take_snoc h]; simp [numsOut]
theorem numsOut_size (l : List Int) : ∀ out : ByteArray, (numsOut out l).size ≤ out.size + 10 * l.length := by
  induction l with
  | nil => intro out; simp [numsOut]
  | cons p r ih =>
    intro out
    have h1 := ih (out ++ strOfNums (encF 9 p))
    have h2 := encF_len 9 p
    simp only [size_append, strOfNums_size] at h1
    simp only [numsOut, List.foldl_cons, List.length_cons] at h1 ⊢
    omega
def dsNums (e : E) : List Int := [e.ds.id, e.ds.org, e.ds.format, e.ds.length, e.ds.block, e.ds.keyAt, e.ds.keyLength, e.ds.interval, e.ds.area, e.ds.freeInterval, e.ds.freeArea, e.ds.base, e.ds.altAt, e.ds.altLength]
def dsOut1 (out : ByteArray) (e : E) : ByteArray := numsOut out (dsNums e) ++ strOfNums [if e.ds.unique then 1 else 0] ++ strOfNums (encF 9 e.ds.cls) ++ encText e.ds.volume ++ encText e.ds.owner
def dsOut2 (out : ByteArray) (e : E) : ByteArray := numsOut (dsOut1 out e) [e.ds.created, e.ds.expires] ++ strOfNums [if e.ds.archived then 1 else 0] ++ strOfNums (encF 9 e.alt.length)
def dsOut (out : ByteArray) (e : E) : ByteArray := numsOut (dsOut2 out e) e.alt ++ strOfNums (encF 9 e.used)
theorem all_mem {P : Int → Prop} {l : List Int} (h : ∀ x ∈ l, P x) {m : List (Addr × Int)} (hm : m.map (·.2) = l) : ∀ p ∈ m, P p.2 := fun p hp => h p.2 (by rw [← hm]; exact List.mem_map_of_mem hp)

set_option maxHeartbeats 1000000 in
set_option maxRecDepth 100000 in
theorem data_w (c q : Nat) (out : ByteArray) (e : E) (A1 : Option Addr) (c1 : Nat) (vg : Value) (w0 w : World) (H : List It) (hst : St w0 (cB c out none :: .blk q 34 (e.cells (.slice A1 e.alt.length c1) vg) :: H) w) (hr : Sl encI 1 w0 A1 e.alt) (hN : ∀ x ∈ dsNums e, 0 ≤ x ∧ x < 9223372036854775808) (hC : 0 ≤ e.ds.cls ∧ e.ds.cls < 9223372036854775808) (hD : ∀ x ∈ [e.ds.created, e.ds.expires], 0 ≤ x ∧ x < 9223372036854775808) (hU : 0 ≤ e.used ∧ e.used < 9223372036854775808) (hA : ∀ x ∈ e.alt, 0 ≤ x ∧ x < 9223372036854775808) (hn : e.alt.length ≤ 4) (ho : out.size < 1000) (hv : e.ds.volume.size < 1000) (how : e.ds.owner.size < 1000) :
    Calls Tryz.prog 194 #[.pointer (some ⟨c, 0, none⟩), .pointer (some ⟨q, 0, none⟩)] w (Mo w0 (.tuple #[]) (cB c (dsOut out e) none :: .blk q 34 (e.cells (.slice A1 e.alt.length c1) vg) :: H)) := by
  have hz0 : (numsOut out (dsNums e)).size ≤ out.size + 140 := numsOut_size (dsNums e) out
  have hz1 : (dsOut1 out e).size ≤ out.size + 2200 := by have h1 := encF_len 9 e.ds.cls; have h2 := encText_size e.ds.volume; have h3 := encText_size e.ds.owner; simp only [dsOut1, size_append, strOfNums_size, List.length_cons, List.length_nil]; omega
  have hz2 : (numsOut (dsOut1 out e) [e.ds.created, e.ds.expires]).size ≤ out.size + 2220 := by have := numsOut_size [e.ds.created, e.ds.expires] (dsOut1 out e); simp only [List.length_cons, List.length_nil] at this; omega
  have hz3 : (dsOut2 out e).size ≤ out.size + 2240 := by have h1 := encF_len 9 e.alt.length; simp only [dsOut2, size_append, strOfNums_size, List.length_cons, List.length_nil]; omega
  refine enterH Tryz.func194 rfl Tryz.ntmps194 rfl hst ?_
  refine WC.seq ?_
  refine WC.region ?_
  refine WL.p rfl rfl rfl (P.move rfl) ?_
  refine WL.p rfl rfl rfl (P.nilCheck rfl) ?_
  refine WL.p rfl rfl rfl (P.fieldAddr fa_34_2 rfl) ?_
  refine WL.p rfl rfl rfl (P.assign rfl) ?_
  refine WL.nil_ ?_
  refine End.seq ?_
  refine WC.seq ?_
  refine WC.nil1 ?_
  apply WC.draws (al := [43]) (vs := [_, _, _, _, _, _, _, _, _, _, _, _, _, _, _, _, _, _, _, _, _, _, _, _, _, _, _, _, _, _, _, _, _, _, _, _, _, _, _, _, _, _, _, fun s => .slice (some ⟨(s 43).1, 0, none⟩) 14 14, _]) (Hs := fun v HH b s => (bif b 44 then ((.blk (s 43).1 222 (rowP [(⟨q, 2, none⟩, e.ds.id), (⟨q, 3, none⟩, e.ds.org), (⟨q, 4, none⟩, e.ds.format), (⟨q, 5, none⟩, e.ds.length), (⟨q, 6, none⟩, e.ds.block), (⟨q, 7, none⟩, e.ds.keyAt), (⟨q, 8, none⟩, e.ds.keyLength), (⟨q, 9, none⟩, e.ds.interval), (⟨q, 10, none⟩, e.ds.area), (⟨q, 11, none⟩, e.ds.freeInterval), (⟨q, 12, none⟩, e.ds.freeArea), (⟨q, 13, none⟩, e.ds.base), (⟨q, 14, none⟩, e.ds.altAt), (⟨q, 15, none⟩, e.ds.altLength)]) :: cB c (numsOut out (dsNums e)) none :: .blk q 34 (e.cells (.slice A1 e.alt.length c1) vg) :: H)) else (bnew (b 43) (It.blk (s 43).1 222 #[.pointer (some ⟨q, 2, none⟩), .pointer (some ⟨q, 3, none⟩), .pointer (some ⟨q, 4, none⟩), .pointer (some ⟨q, 5, none⟩), .pointer (some ⟨q, 6, none⟩), .pointer (some ⟨q, 7, none⟩), .pointer (some ⟨q, 8, none⟩), .pointer (some ⟨q, 9, none⟩), .pointer (some ⟨q, 10, none⟩), .pointer (some ⟨q, 11, none⟩), .pointer (some ⟨q, 12, none⟩), .pointer (some ⟨q, 13, none⟩), .pointer (some ⟨q, 14, none⟩), .pointer (some ⟨q, 15, none⟩)]) HH 0))) (by kernel_rfl) (by kernel_rfl) (by kernel_rfl)
  case steps =>
    refine Stps.cons (Stp.off [44] (by kernel_rfl) (Stp.p (fun b s hd => ⟨_, ⟨rfl, P.move rfl⟩, rfl, rfl⟩))) ?_
    refine Stps.cons (Stp.off [44] (by kernel_rfl) (Stp.p (fun b s hd => ⟨_, ⟨rfl, P.move rfl⟩, rfl, rfl⟩))) ?_
    refine Stps.cons (Stp.off [44] (by kernel_rfl) (Stp.p (fun b s hd => ⟨_, ⟨rfl, P.nilCheck rfl⟩, rfl, rfl⟩))) ?_
    refine Stps.cons (Stp.off [44] (by kernel_rfl) (Stp.p (fun b s hd => ⟨_, ⟨rfl, P.fieldAddr fa_31_0 rfl⟩, rfl, rfl⟩))) ?_
    refine Stps.cons (Stp.off [44] (by kernel_rfl) (Stp.p (fun b s hd => ⟨_, ⟨rfl, P.move rfl⟩, rfl, rfl⟩))) ?_
    refine Stps.cons (Stp.off [44] (by kernel_rfl) (Stp.p (fun b s hd => ⟨_, ⟨rfl, P.nilCheck rfl⟩, rfl, rfl⟩))) ?_
    refine Stps.cons (Stp.off [44] (by kernel_rfl) (Stp.p (fun b s hd => ⟨_, ⟨rfl, P.fieldAddr fa_31_1 rfl⟩, rfl, rfl⟩))) ?_
    refine Stps.cons (Stp.off [44] (by kernel_rfl) (Stp.p (fun b s hd => ⟨_, ⟨rfl, P.move rfl⟩, rfl, rfl⟩))) ?_
    refine Stps.cons (Stp.off [44] (by kernel_rfl) (Stp.p (fun b s hd => ⟨_, ⟨rfl, P.nilCheck rfl⟩, rfl, rfl⟩))) ?_
    refine Stps.cons (Stp.off [44] (by kernel_rfl) (Stp.p (fun b s hd => ⟨_, ⟨rfl, P.fieldAddr fa_31_2 rfl⟩, rfl, rfl⟩))) ?_
    refine Stps.cons (Stp.off [44] (by kernel_rfl) (Stp.p (fun b s hd => ⟨_, ⟨rfl, P.move rfl⟩, rfl, rfl⟩))) ?_
    refine Stps.cons (Stp.off [44] (by kernel_rfl) (Stp.p (fun b s hd => ⟨_, ⟨rfl, P.nilCheck rfl⟩, rfl, rfl⟩))) ?_
    refine Stps.cons (Stp.off [44] (by kernel_rfl) (Stp.p (fun b s hd => ⟨_, ⟨rfl, P.fieldAddr fa_31_3 rfl⟩, rfl, rfl⟩))) ?_
    refine Stps.cons (Stp.off [44] (by kernel_rfl) (Stp.p (fun b s hd => ⟨_, ⟨rfl, P.move rfl⟩, rfl, rfl⟩))) ?_
    refine Stps.cons (Stp.off [44] (by kernel_rfl) (Stp.p (fun b s hd => ⟨_, ⟨rfl, P.nilCheck rfl⟩, rfl, rfl⟩))) ?_
    refine Stps.cons (Stp.off [44] (by kernel_rfl) (Stp.p (fun b s hd => ⟨_, ⟨rfl, P.fieldAddr fa_31_4 rfl⟩, rfl, rfl⟩))) ?_
    refine Stps.cons (Stp.off [44] (by kernel_rfl) (Stp.p (fun b s hd => ⟨_, ⟨rfl, P.move rfl⟩, rfl, rfl⟩))) ?_
    refine Stps.cons (Stp.off [44] (by kernel_rfl) (Stp.p (fun b s hd => ⟨_, ⟨rfl, P.nilCheck rfl⟩, rfl, rfl⟩))) ?_
    refine Stps.cons (Stp.off [44] (by kernel_rfl) (Stp.p (fun b s hd => ⟨_, ⟨rfl, P.fieldAddr fa_31_5 rfl⟩, rfl, rfl⟩))) ?_
    refine Stps.cons (Stp.off [44] (by kernel_rfl) (Stp.p (fun b s hd => ⟨_, ⟨rfl, P.move rfl⟩, rfl, rfl⟩))) ?_
    refine Stps.cons (Stp.off [44] (by kernel_rfl) (Stp.p (fun b s hd => ⟨_, ⟨rfl, P.nilCheck rfl⟩, rfl, rfl⟩))) ?_
    refine Stps.cons (Stp.off [44] (by kernel_rfl) (Stp.p (fun b s hd => ⟨_, ⟨rfl, P.fieldAddr fa_31_6 rfl⟩, rfl, rfl⟩))) ?_
    refine Stps.cons (Stp.off [44] (by kernel_rfl) (Stp.p (fun b s hd => ⟨_, ⟨rfl, P.move rfl⟩, rfl, rfl⟩))) ?_
    refine Stps.cons (Stp.off [44] (by kernel_rfl) (Stp.p (fun b s hd => ⟨_, ⟨rfl, P.nilCheck rfl⟩, rfl, rfl⟩))) ?_
    refine Stps.cons (Stp.off [44] (by kernel_rfl) (Stp.p (fun b s hd => ⟨_, ⟨rfl, P.fieldAddr fa_31_7 rfl⟩, rfl, rfl⟩))) ?_
    refine Stps.cons (Stp.off [44] (by kernel_rfl) (Stp.p (fun b s hd => ⟨_, ⟨rfl, P.move rfl⟩, rfl, rfl⟩))) ?_
    refine Stps.cons (Stp.off [44] (by kernel_rfl) (Stp.p (fun b s hd => ⟨_, ⟨rfl, P.nilCheck rfl⟩, rfl, rfl⟩))) ?_
    refine Stps.cons (Stp.off [44] (by kernel_rfl) (Stp.p (fun b s hd => ⟨_, ⟨rfl, P.fieldAddr fa_31_8 rfl⟩, rfl, rfl⟩))) ?_
    refine Stps.cons (Stp.off [44] (by kernel_rfl) (Stp.p (fun b s hd => ⟨_, ⟨rfl, P.move rfl⟩, rfl, rfl⟩))) ?_
    refine Stps.cons (Stp.off [44] (by kernel_rfl) (Stp.p (fun b s hd => ⟨_, ⟨rfl, P.nilCheck rfl⟩, rfl, rfl⟩))) ?_
    refine Stps.cons (Stp.off [44] (by kernel_rfl) (Stp.p (fun b s hd => ⟨_, ⟨rfl, P.fieldAddr fa_31_9 rfl⟩, rfl, rfl⟩))) ?_
    refine Stps.cons (Stp.off [44] (by kernel_rfl) (Stp.p (fun b s hd => ⟨_, ⟨rfl, P.move rfl⟩, rfl, rfl⟩))) ?_
    refine Stps.cons (Stp.off [44] (by kernel_rfl) (Stp.p (fun b s hd => ⟨_, ⟨rfl, P.nilCheck rfl⟩, rfl, rfl⟩))) ?_
    refine Stps.cons (Stp.off [44] (by kernel_rfl) (Stp.p (fun b s hd => ⟨_, ⟨rfl, P.fieldAddr fa_31_10 rfl⟩, rfl, rfl⟩))) ?_
    refine Stps.cons (Stp.off [44] (by kernel_rfl) (Stp.p (fun b s hd => ⟨_, ⟨rfl, P.move rfl⟩, rfl, rfl⟩))) ?_
    refine Stps.cons (Stp.off [44] (by kernel_rfl) (Stp.p (fun b s hd => ⟨_, ⟨rfl, P.nilCheck rfl⟩, rfl, rfl⟩))) ?_
    refine Stps.cons (Stp.off [44] (by kernel_rfl) (Stp.p (fun b s hd => ⟨_, ⟨rfl, P.fieldAddr fa_31_11 rfl⟩, rfl, rfl⟩))) ?_
    refine Stps.cons (Stp.off [44] (by kernel_rfl) (Stp.p (fun b s hd => ⟨_, ⟨rfl, P.move rfl⟩, rfl, rfl⟩))) ?_
    refine Stps.cons (Stp.off [44] (by kernel_rfl) (Stp.p (fun b s hd => ⟨_, ⟨rfl, P.nilCheck rfl⟩, rfl, rfl⟩))) ?_
    refine Stps.cons (Stp.off [44] (by kernel_rfl) (Stp.p (fun b s hd => ⟨_, ⟨rfl, P.fieldAddr fa_31_12 rfl⟩, rfl, rfl⟩))) ?_
    refine Stps.cons (Stp.off [44] (by kernel_rfl) (Stp.p (fun b s hd => ⟨_, ⟨rfl, P.move rfl⟩, rfl, rfl⟩))) ?_
    refine Stps.cons (Stp.off [44] (by kernel_rfl) (Stp.p (fun b s hd => ⟨_, ⟨rfl, P.nilCheck rfl⟩, rfl, rfl⟩))) ?_
    refine Stps.cons (Stp.off [44] (by kernel_rfl) (Stp.p (fun b s hd => ⟨_, ⟨rfl, P.fieldAddr fa_31_13 rfl⟩, rfl, rfl⟩))) ?_
    refine Stps.cons (Stp.off [44] (by kernel_rfl) (Stp.row 0 rfl (fun b s => ⟨rfl, _, _, rfl, fun w => by refine run_rowL Tryz.underlying273 Tryz.sizeOf222 Tryz.zeroValue222 ?_ ?_ ?_ ?_ ?_ ?_ w <;> rfl, fun q => ⟨rfl, _, rfl, fun hb => rfl⟩⟩))) ?_
    refine Stps.cons (Stp.callo (ent_of Tryz.func197 rfl rfl) (fun b s hb hd => ⟨_, _, (.blk (s 43).1 222 (rowP [(⟨q, 2, none⟩, e.ds.id), (⟨q, 3, none⟩, e.ds.org), (⟨q, 4, none⟩, e.ds.format), (⟨q, 5, none⟩, e.ds.length), (⟨q, 6, none⟩, e.ds.block), (⟨q, 7, none⟩, e.ds.keyAt), (⟨q, 8, none⟩, e.ds.keyLength), (⟨q, 9, none⟩, e.ds.interval), (⟨q, 10, none⟩, e.ds.area), (⟨q, 11, none⟩, e.ds.freeInterval), (⟨q, 12, none⟩, e.ds.freeArea), (⟨q, 13, none⟩, e.ds.base), (⟨q, 14, none⟩, e.ds.altAt), (⟨q, 15, none⟩, e.ds.altLength)]) :: cB c out none :: .blk q 34 (e.cells (.slice A1 e.alt.length c1) vg) :: H), _, rfl, rfl, (by show (bif b 44 then _ else bnew (b 43) _ _ _) = _; rw [hb, hd 43 (by decide)]; rfl), fun w hs => numbers_w c (s 43).1 out [(⟨q, 2, none⟩, e.ds.id), (⟨q, 3, none⟩, e.ds.org), (⟨q, 4, none⟩, e.ds.format), (⟨q, 5, none⟩, e.ds.length), (⟨q, 6, none⟩, e.ds.block), (⟨q, 7, none⟩, e.ds.keyAt), (⟨q, 8, none⟩, e.ds.keyLength), (⟨q, 9, none⟩, e.ds.interval), (⟨q, 10, none⟩, e.ds.area), (⟨q, 11, none⟩, e.ds.freeInterval), (⟨q, 12, none⟩, e.ds.freeArea), (⟨q, 13, none⟩, e.ds.base), (⟨q, 14, none⟩, e.ds.altAt), (⟨q, 15, none⟩, e.ds.altLength)] w0 w _ hs (by intro p hp; simp only [List.mem_cons, List.not_mem_nil, or_false] at hp; rcases hp with rfl | rfl | rfl | rfl | rfl | rfl | rfl | rfl | rfl | rfl | rfl | rfl | rfl | rfl <;> exact fun cs w hs => (cell_blk (hs.ok 2 _ rfl).2).trans rfl) (all_mem hN rfl) (by simp; omega), rfl, rfl⟩)) ?_
    exact Stps.nil
  case h0 => exact fun s => rfl
  case agree => exact AgrAll.cons (AgrL.no (fun s x => rfl) (AgrL.no (fun s x => rfl) (AgrL.no (fun s x => rfl) (AgrL.no (fun s x => rfl) (AgrL.no (fun s x => rfl) (AgrL.no (fun s x => rfl) (AgrL.no (fun s x => rfl) (AgrL.no (fun s x => rfl) (AgrL.no (fun s x => rfl) (AgrL.no (fun s x => rfl) (AgrL.no (fun s x => rfl) (AgrL.no (fun s x => rfl) (AgrL.no (fun s x => rfl) (AgrL.no (fun s x => rfl) (AgrL.no (fun s x => rfl) (AgrL.no (fun s x => rfl) (AgrL.no (fun s x => rfl) (AgrL.no (fun s x => rfl) (AgrL.no (fun s x => rfl) (AgrL.no (fun s x => rfl) (AgrL.no (fun s x => rfl) (AgrL.no (fun s x => rfl) (AgrL.no (fun s x => rfl) (AgrL.no (fun s x => rfl) (AgrL.no (fun s x => rfl) (AgrL.no (fun s x => rfl) (AgrL.no (fun s x => rfl) (AgrL.no (fun s x => rfl) (AgrL.no (fun s x => rfl) (AgrL.no (fun s x => rfl) (AgrL.no (fun s x => rfl) (AgrL.no (fun s x => rfl) (AgrL.no (fun s x => rfl) (AgrL.no (fun s x => rfl) (AgrL.no (fun s x => rfl) (AgrL.no (fun s x => rfl) (AgrL.no (fun s x => rfl) (AgrL.no (fun s x => rfl) (AgrL.no (fun s x => rfl) (AgrL.no (fun s x => rfl) (AgrL.no (fun s x => rfl) (AgrL.no (fun s x => rfl) (AgrL.no (fun s x => rfl) (AgrL.yes (by kernel_rfl) (AgrL.yes (by kernel_rfl) (AgrL.nil)))))))))))))))))))))))))))))))))))))))))))))) (AgrAll.nil)
  intro s1
  refine End.shape (ρ' := [(0, _), (1, _), (4, _), (7, _), (8, _), (9, _), (10, _), (11, _), (12, _), (13, _), (14, _), (15, _), (16, _), (17, _), (18, _), (19, _), (20, _), (21, _), (22, _), (23, _), (24, _), (25, _), (26, _), (27, _), (28, _), (29, _), (30, _), (31, _), (32, _), (33, _), (34, _), (35, _), (36, _), (37, _), (38, _), (39, _), (40, _), (41, _), (42, _), (43, _), (44, _), (45, _), (46, _), (47, _), (48, _), (49, _), (50, _), (51, _), (52, _), (53, _), (54, _)]) (H' := _ :: _ :: _ :: H) (Env.sub_cons rfl (Env.sub_cons rfl (Env.sub_cons rfl (Env.sub_cons rfl (Env.sub_cons rfl (Env.sub_cons rfl (Env.sub_cons rfl (Env.sub_cons rfl (Env.sub_cons rfl (Env.sub_cons rfl (Env.sub_cons rfl (Env.sub_cons rfl (Env.sub_cons rfl (Env.sub_cons rfl (Env.sub_cons rfl (Env.sub_cons rfl (Env.sub_cons rfl (Env.sub_cons rfl (Env.sub_cons rfl (Env.sub_cons rfl (Env.sub_cons rfl (Env.sub_cons rfl (Env.sub_cons rfl (Env.sub_cons rfl (Env.sub_cons rfl (Env.sub_cons rfl (Env.sub_cons rfl (Env.sub_cons rfl (Env.sub_cons rfl (Env.sub_cons rfl (Env.sub_cons rfl (Env.sub_cons rfl (Env.sub_cons rfl (Env.sub_cons rfl (Env.sub_cons rfl (Env.sub_cons rfl (Env.sub_cons rfl (Env.sub_cons rfl (Env.sub_cons rfl (Env.sub_cons rfl (Env.sub_cons rfl (Env.sub_cons rfl (Env.sub_cons rfl (Env.sub_cons rfl (Env.sub_cons rfl (Env.sub_cons rfl (Env.sub_cons rfl (Env.sub_cons rfl (Env.sub_cons rfl (Env.sub_cons rfl (Env.sub_cons rfl (Env.sub_nil)))))))))))))))))))))))))))))))))))))))))))))))))))) rfl ?_
  refine End.seq ?_
  refine WC.seq ?_
  refine WC.region ?_
  refine WL.conv (fun w hs => hs.tail) ?_
  refine WL.p rfl rfl rfl (P.move rfl) ?_
  refine WL.p rfl rfl rfl (P.move rfl) ?_
  refine WL.p rfl rfl rfl (P.nilCheck rfl) ?_
  refine WL.p rfl rfl rfl (P.fieldAddr fa_31_14 rfl) ?_
  refine WL.callo (H' := _) (ent_of Tryz.func198 rfl rfl) rfl rfl rfl (fun w hs => truth_w c (numsOut out (dsNums e)) ⟨q, 16, none⟩ e.ds.unique w0 w _ hs (fun cs w hs => (cell_blk (hs.ok 1 _ rfl).2).trans rfl) (by omega)) ?_
  refine WL.nil_ ?_
  refine End.seq ?_
  refine WC.seq ?_
  refine WC.region ?_
  refine WL.p rfl rfl rfl (P.move rfl) ?_
  refine WL.p rfl rfl rfl (P.move rfl) ?_
  refine WL.p rfl rfl rfl (P.nilCheck rfl) ?_
  refine WL.p rfl rfl rfl (P.fieldAddr fa_31_15 rfl) ?_
  refine WL.callo (H' := _) (ent_of Tryz.func210 rfl rfl) rfl rfl rfl (fun w hs => number_w c _ ⟨q, 17, none⟩ e.ds.cls w0 w _ hs (fun cs w hs => (cell_blk (hs.ok 1 _ rfl).2).trans rfl) (by simp only [size_append, strOfNums_size, List.length_cons, List.length_nil]; omega) hC) ?_
  refine WL.nil_ ?_
  refine End.seq ?_
  refine WC.seq ?_
  refine WC.region ?_
  refine WL.p rfl rfl rfl (P.move rfl) ?_
  refine WL.p rfl rfl rfl (P.move rfl) ?_
  refine WL.p rfl rfl rfl (P.nilCheck rfl) ?_
  refine WL.p rfl rfl rfl (P.fieldAddr fa_31_16 rfl) ?_
  refine WL.callo (H' := _) (ent_of Tryz.func199 rfl rfl) rfl rfl rfl (fun w hs => text_w c _ ⟨q, 18, none⟩ e.ds.volume w0 w _ hs (fun cs w hs => (cell_blk (hs.ok 1 _ rfl).2).trans rfl) (by have h1 := encF_len 9 e.ds.cls; simp only [size_append, strOfNums_size, List.length_cons, List.length_nil]; omega) (by omega)) ?_
  refine WL.nil_ ?_
  refine End.seq ?_
  refine WC.seq ?_
  refine WC.region ?_
  refine WL.p rfl rfl rfl (P.move rfl) ?_
  refine WL.p rfl rfl rfl (P.move rfl) ?_
  refine WL.p rfl rfl rfl (P.nilCheck rfl) ?_
  refine WL.p rfl rfl rfl (P.fieldAddr fa_31_17 rfl) ?_
  refine WL.callo (H' := _) (ent_of Tryz.func199 rfl rfl) rfl rfl rfl (fun w hs => text_w c _ ⟨q, 19, none⟩ e.ds.owner w0 w _ hs (fun cs w hs => (cell_blk (hs.ok 1 _ rfl).2).trans rfl) (by have h1 := encF_len 9 e.ds.cls; have h2 := encText_size e.ds.volume; simp only [size_append, strOfNums_size, List.length_cons, List.length_nil]; omega) (by omega)) ?_
  refine WL.nil_ ?_
  refine End.seq ?_
  refine WC.seq ?_
  refine WC.nil1 ?_
  apply WC.draws (al := [7]) (vs := [_, _, _, _, _, _, _, fun s => .slice (some ⟨(s 7).1, 0, none⟩) 2 2, _]) (Hs := fun v HH b s => (bif b 8 then ((.blk (s 7).1 222 (rowP [(⟨q, 20, none⟩, e.ds.created), (⟨q, 21, none⟩, e.ds.expires)]) :: cB c (numsOut (dsOut1 out e) [e.ds.created, e.ds.expires]) none :: .blk q 34 (e.cells (.slice A1 e.alt.length c1) vg) :: H)) else (bnew (b 7) (It.blk (s 7).1 222 #[.pointer (some ⟨q, 20, none⟩), .pointer (some ⟨q, 21, none⟩)]) HH 0))) (by kernel_rfl) (by kernel_rfl) (by kernel_rfl)
  case steps =>
    refine Stps.cons (Stp.off [8] (by kernel_rfl) (Stp.p (fun b s hd => ⟨_, ⟨rfl, P.move rfl⟩, rfl, rfl⟩))) ?_
    refine Stps.cons (Stp.off [8] (by kernel_rfl) (Stp.p (fun b s hd => ⟨_, ⟨rfl, P.move rfl⟩, rfl, rfl⟩))) ?_
    refine Stps.cons (Stp.off [8] (by kernel_rfl) (Stp.p (fun b s hd => ⟨_, ⟨rfl, P.nilCheck rfl⟩, rfl, rfl⟩))) ?_
    refine Stps.cons (Stp.off [8] (by kernel_rfl) (Stp.p (fun b s hd => ⟨_, ⟨rfl, P.fieldAddr fa_31_18 rfl⟩, rfl, rfl⟩))) ?_
    refine Stps.cons (Stp.off [8] (by kernel_rfl) (Stp.p (fun b s hd => ⟨_, ⟨rfl, P.move rfl⟩, rfl, rfl⟩))) ?_
    refine Stps.cons (Stp.off [8] (by kernel_rfl) (Stp.p (fun b s hd => ⟨_, ⟨rfl, P.nilCheck rfl⟩, rfl, rfl⟩))) ?_
    refine Stps.cons (Stp.off [8] (by kernel_rfl) (Stp.p (fun b s hd => ⟨_, ⟨rfl, P.fieldAddr fa_31_19 rfl⟩, rfl, rfl⟩))) ?_
    refine Stps.cons (Stp.off [8] (by kernel_rfl) (Stp.row 0 rfl (fun b s => ⟨rfl, _, _, rfl, fun w => by refine run_rowL Tryz.underlying273 Tryz.sizeOf222 Tryz.zeroValue222 ?_ ?_ ?_ ?_ ?_ ?_ w <;> rfl, fun q => ⟨rfl, _, rfl, fun hb => rfl⟩⟩))) ?_
    refine Stps.cons (Stp.callo (ent_of Tryz.func197 rfl rfl) (fun b s hb hd => ⟨_, _, (.blk (s 7).1 222 (rowP [(⟨q, 20, none⟩, e.ds.created), (⟨q, 21, none⟩, e.ds.expires)]) :: cB c (dsOut1 out e) none :: .blk q 34 (e.cells (.slice A1 e.alt.length c1) vg) :: H), _, rfl, rfl, (by show (bif b 8 then _ else bnew (b 7) _ _ _) = _; rw [hb, hd 7 (by decide)]; rfl), fun w hs => numbers_w c (s 7).1 (dsOut1 out e) [(⟨q, 20, none⟩, e.ds.created), (⟨q, 21, none⟩, e.ds.expires)] w0 w _ hs (by intro p hp; simp only [List.mem_cons, List.not_mem_nil, or_false] at hp; rcases hp with rfl | rfl <;> exact fun cs w hs => (cell_blk (hs.ok 2 _ rfl).2).trans rfl) (all_mem hD rfl) (by simp; omega), rfl, rfl⟩)) ?_
    exact Stps.nil
  case h0 => exact fun s => rfl
  case agree => exact AgrAll.cons (AgrL.no (fun s x => rfl) (AgrL.no (fun s x => rfl) (AgrL.no (fun s x => rfl) (AgrL.no (fun s x => rfl) (AgrL.no (fun s x => rfl) (AgrL.no (fun s x => rfl) (AgrL.no (fun s x => rfl) (AgrL.yes (by kernel_rfl) (AgrL.yes (by kernel_rfl) (AgrL.nil)))))))))) (AgrAll.nil)
  intro s6
  refine End.shape (ρ' := [(0, _), (1, _), (4, _), (7, _), (8, _), (9, _), (10, _), (11, _), (12, _), (13, _), (14, _), (15, _), (16, _), (17, _), (18, _), (19, _), (20, _), (21, _), (22, _), (23, _), (24, _), (25, _), (26, _), (27, _), (28, _), (29, _), (30, _), (31, _), (32, _), (33, _), (34, _), (35, _), (36, _), (37, _), (38, _), (39, _), (40, _), (41, _), (42, _), (43, _), (44, _), (45, _), (46, _), (47, _), (48, _), (49, _), (50, _), (51, _), (52, _), (53, _), (54, _), (55, _), (56, _), (57, _), (58, _), (59, _), (60, _), (61, _), (62, _), (63, _), (64, _), (65, _), (66, _), (67, _), (68, _), (69, _), (70, _), (71, _), (72, _), (73, _), (74, _), (75, _), (76, _), (77, _), (78, _), (79, _), (80, _), (81, _), (82, _), (83, _)]) (H' := _ :: _ :: _ :: H) (Env.sub_cons rfl (Env.sub_cons rfl (Env.sub_cons rfl (Env.sub_cons rfl (Env.sub_cons rfl (Env.sub_cons rfl (Env.sub_cons rfl (Env.sub_cons rfl (Env.sub_cons rfl (Env.sub_cons rfl (Env.sub_cons rfl (Env.sub_cons rfl (Env.sub_cons rfl (Env.sub_cons rfl (Env.sub_cons rfl (Env.sub_cons rfl (Env.sub_cons rfl (Env.sub_cons rfl (Env.sub_cons rfl (Env.sub_cons rfl (Env.sub_cons rfl (Env.sub_cons rfl (Env.sub_cons rfl (Env.sub_cons rfl (Env.sub_cons rfl (Env.sub_cons rfl (Env.sub_cons rfl (Env.sub_cons rfl (Env.sub_cons rfl (Env.sub_cons rfl (Env.sub_cons rfl (Env.sub_cons rfl (Env.sub_cons rfl (Env.sub_cons rfl (Env.sub_cons rfl (Env.sub_cons rfl (Env.sub_cons rfl (Env.sub_cons rfl (Env.sub_cons rfl (Env.sub_cons rfl (Env.sub_cons rfl (Env.sub_cons rfl (Env.sub_cons rfl (Env.sub_cons rfl (Env.sub_cons rfl (Env.sub_cons rfl (Env.sub_cons rfl (Env.sub_cons rfl (Env.sub_cons rfl (Env.sub_cons rfl (Env.sub_cons rfl (Env.sub_cons rfl (Env.sub_cons rfl (Env.sub_cons rfl (Env.sub_cons rfl (Env.sub_cons rfl (Env.sub_cons rfl (Env.sub_cons rfl (Env.sub_cons rfl (Env.sub_cons rfl (Env.sub_cons rfl (Env.sub_cons rfl (Env.sub_cons rfl (Env.sub_cons rfl (Env.sub_cons rfl (Env.sub_cons rfl (Env.sub_cons rfl (Env.sub_cons rfl (Env.sub_cons rfl (Env.sub_cons rfl (Env.sub_cons rfl (Env.sub_cons rfl (Env.sub_cons rfl (Env.sub_cons rfl (Env.sub_cons rfl (Env.sub_cons rfl (Env.sub_cons rfl (Env.sub_cons rfl (Env.sub_cons rfl (Env.sub_cons rfl (Env.sub_nil))))))))))))))))))))))))))))))))))))))))))))))))))))))))))))))))))))))))))))))))) rfl ?_
  refine End.seq ?_
  refine WC.seq ?_
  refine WC.region ?_
  refine WL.conv (fun w hs => hs.tail) ?_
  refine WL.p rfl rfl rfl (P.move rfl) ?_
  refine WL.p rfl rfl rfl (P.move rfl) ?_
  refine WL.p rfl rfl rfl (P.nilCheck rfl) ?_
  refine WL.p rfl rfl rfl (P.fieldAddr fa_31_20 rfl) ?_
  refine WL.callo (H' := _) (ent_of Tryz.func198 rfl rfl) rfl rfl rfl (fun w hs => truth_w c (numsOut (dsOut1 out e) [e.ds.created, e.ds.expires]) ⟨q, 22, none⟩ e.ds.archived w0 w _ hs (fun cs w hs => (cell_blk (hs.ok 1 _ rfl).2).trans rfl) (by omega)) ?_
  refine WL.nil_ ?_
  refine End.seq ?_
  refine WC.seq ?_
  refine WC.region ?_
  refine WL.p rfl rfl rfl (P.move rfl) ?_
  refine WL.p rfl rfl rfl (P.move rfl) ?_
  refine WL.p rfl rfl rfl (P.nilCheck rfl) ?_
  refine WL.p rfl rfl rfl (P.fieldAddr fa_34_3 rfl) ?_
  refine WL.p rfl rfl rfl (P.loadO 1 Tryz.isAgg22 rfl rfl rfl) ?_
  refine WL.p rfl rfl rfl (P.lenR Tryz.underlying22 rfl) ?_
  refine WL.callo (H' := _) (ent_of Tryz.func263 rfl rfl) rfl rfl rfl (fun w hs => count_w c _ e.alt.length 4 w0 w _ hs (by simp only [size_append, strOfNums_size, List.length_cons, List.length_nil]; omega) (by omega) (by omega)) ?_
  refine WL.p rfl rfl rfl (P.assign rfl) ?_
  refine WL.nil_ ?_
  refine End.seq ?_
  refine WC.seq ?_
  refine WC.seq ?_
  refine WC.region ?_
  refine WL.p rfl rfl rfl (P.move rfl) ?_
  refine WL.p rfl rfl rfl (P.nilCheck rfl) ?_
  refine WL.p rfl rfl rfl (P.fieldAddr fa_155_1 rfl) ?_
  refine WL.p rfl rfl rfl (P.loadO 0 Tryz.isAgg152 rfl rfl rfl) ?_
  refine WL.p rfl rfl rfl (P.neNil Tryz.underlying152 rfl rfl) ?_
  refine WL.p rfl rfl rfl (P.move rfl) ?_
  refine WL.split 101 rfl (fun hs101 => ?_) (fun hs101 => ?_)
  ·
    try simp only [decide_eq_true_eq, decide_eq_false_iff_not, beq_iff_eq, beq_eq_false_iff_ne, bne_iff_ne, bne_eq_false_iff_eq, Bool.not_eq_true', Bool.not_eq_false', ne_eq, Int.not_lt, Int.not_le] at hs101
    cases hs101
  ·
    try simp only [decide_eq_true_eq, decide_eq_false_iff_not, beq_iff_eq, beq_eq_false_iff_ne, bne_iff_ne, bne_eq_false_iff_eq, Bool.not_eq_true', Bool.not_eq_false', ne_eq, Int.not_lt, Int.not_le] at hs101
    refine WL.off rfl rfl ?_
    refine WL.off rfl rfl ?_
    refine WL.p rfl rfl rfl (P.pickF rfl rfl) ?_
    refine WL.nil_ ?_
    refine End.seq ?_
    refine WC.condF rfl ?_
    refine WC.skip ?_
    refine End.seq ?_
    refine WC.seq ?_
    refine WC.seq ?_
    refine WC.region ?_
    refine WL.p rfl rfl rfl (P.move rfl) ?_
    refine WL.p rfl rfl rfl (P.nilCheck rfl) ?_
    refine WL.p rfl rfl rfl (P.fieldAddr fa_34_3 rfl) ?_
    refine WL.p rfl rfl rfl (P.loadO 1 Tryz.isAgg22 rfl rfl rfl) ?_
    refine WL.p rfl rfl rfl (P.lenR Tryz.underlying22 rfl) ?_
    refine WL.p rfl rfl rfl (P.move rfl) ?_
    refine WL.nil_ ?_
    refine End.seq ?_
    refine WC.block ?_
    refine WC.loopD (σ := Nat) (fun k => [(115, .int .i64 (k : Nat))]) (fun k => (cB c (numsOut (dsOut2 out e) (e.alt.take k)) none :: .blk q 34 (e.cells (.slice A1 e.alt.length c1) vg) :: H)) (fun k => k ≤ e.alt.length) (fun k => e.alt.length - k) 0 (Nat.zero_le _) (Env.sub_cons rfl (Env.sub_nil)) (List.range _) selOk_range (sel_range.trans rfl) ?_
    rintro k hk
    refine WC.seq ?_
    refine WC.region ?_
    refine WL.p rfl rfl rfl (P.cmp rfl rfl rfl) ?_
    refine WL.nil_ ?_
    refine End.seq ?_
    refine WC.seq ?_
    refine WC.cond rfl (fun hc116 => ?_) (fun hc116 => ?_)
    ·
      try simp only [decide_eq_true_eq, decide_eq_false_iff_not, beq_iff_eq, beq_eq_false_iff_ne, bne_iff_ne, bne_eq_false_iff_eq, Bool.not_eq_true', Bool.not_eq_false', ne_eq, Int.not_lt, Int.not_le] at hc116
      obtain ⟨b, off, rfl, hcx⟩ := hr.at_ (by omega)
      obtain ⟨x, hx⟩ := get_of_lt (xs := e.alt) (k := k) (by omega)
      refine WC.skip ?_
      refine End.seq ?_
      refine WC.seq ?_
      refine WC.block ?_
      refine WC.seq ?_
      refine WC.region ?_
      refine WL.p rfl rfl rfl (P.move rfl) ?_
      refine WL.p rfl rfl rfl (P.assign rfl) ?_
      refine WL.nil_ ?_
      refine End.seq ?_
      refine WC.region ?_
      refine WL.p rfl rfl rfl (P.move rfl) ?_
      refine WL.p rfl rfl rfl (P.move rfl) ?_
      refine WL.p rfl rfl rfl (P.nilCheck rfl) ?_
      refine WL.p rfl rfl rfl (P.fieldAddr fa_34_3 rfl) ?_
      refine WL.p rfl rfl rfl (P.loadO 1 Tryz.isAgg22 rfl rfl rfl) ?_
      refine WL.p rfl rfl rfl (P.move rfl) ?_
      refine WL.p rfl rfl rfl (P.elemAddr Tryz.underlying22 Tryz.sizeOf3 rfl rfl (by omega) (by omega)) ?_
      refine WL.callo (H' := _) (ent_of Tryz.func210 rfl rfl) rfl rfl rfl (fun w hs => number_w c (numsOut (dsOut2 out e) (e.alt.take k)) _ x w0 w _ hs (fun cs w hs => hs.cell0 (hcx k x hx 0 _ rfl)) (by have := numsOut_size (e.alt.take k) (dsOut2 out e); rw [List.length_take] at this; omega) (hA x (List.mem_of_getElem? hx))) ?_
      refine WL.nil_ ?_
      refine End.blkN ?_
      refine End.seq ?_
      refine WC.region ?_
      refine WL.p rfl rfl rfl (P.ari64 rfl rfl rfl (by omega)) ?_
      refine WL.p rfl rfl rfl (P.move rfl) ?_
      refine WL.nil_ ?_
      refine End.againD (k + 1) ?_ ?_ rfl (Env.sub_cons rfl (Env.sub_nil)) rfl (List.range _) selOk_range (sel_range.trans (by rw [numsOut_snoc hx]))
      · show k + 1 ≤ e.alt.length; omega
      · omega
    ·
      try simp only [decide_eq_true_eq, decide_eq_false_iff_not, beq_iff_eq, beq_eq_false_iff_ne, bne_iff_ne, bne_eq_false_iff_eq, Bool.not_eq_true', Bool.not_eq_false', ne_eq, Int.not_lt, Int.not_le] at hc116
      refine WC.exit ?_
      refine End.thenX ?_
      refine End.thenX ?_
      refine End.blkX ?_
      refine End.seq ?_
      refine WC.region ?_
      have ek : k = e.alt.length := by omega
      refine WL.conv (H' := cB c (numsOut (dsOut2 out e) e.alt) none :: .blk q 34 (e.cells (.slice A1 e.alt.length c1) vg) :: H) (fun w hs => by have e2 : (e.alt.take k) = e.alt := List.take_of_length_le (by omega); rw [e2] at hs; exact hs) ?_
      refine WL.p rfl rfl rfl (P.move rfl) ?_
      refine WL.p rfl rfl rfl (P.move rfl) ?_
      refine WL.p rfl rfl rfl (P.nilCheck rfl) ?_
      refine WL.p rfl rfl rfl (P.fieldAddr fa_34_4 rfl) ?_
      refine WL.callo (H' := _) (ent_of Tryz.func210 rfl rfl) rfl rfl rfl (fun w hs => number_w c (numsOut (dsOut2 out e) e.alt) ⟨q, 24, none⟩ e.used w0 w _ hs (fun cs w hs => (cell_blk (hs.ok 1 _ rfl).2).trans rfl) (by have := numsOut_size e.alt (dsOut2 out e); omega) hU) ?_
      refine WL.nil_ ?_
      refine End.norm ?_
      refine End.ret0 rfl ?_
      exact fun w' hs' => Mo.of rfl rfl hs'

end Go.Proofs.YtlkkiimmangplaaGreatDoor

/- The fields of data sets read back. -/
namespace Go.Proofs.YtlkkiimmangplaaGreatDoor
open Go.RowKit
set_option linter.unusedVariables false
set_option linter.unusedSimpArgs false

/-- Numbers that are read, one behind the other, as a list. -/
def aStep (s : List Int × Rd) : List Int × Rd := (s.1 ++ [clampN s.2.num.1], s.2.num.2)
def aRead (x : Rd) : Nat → List Int × Rd
  | 0 => ([], x)
  | k + 1 => aStep (aRead x k)
theorem aRead_len (x : Rd) : ∀ k, (aRead x k).1.length = k
  | 0 => rfl
  | k + 1 => by simp only [aRead, aStep, List.length_append, aRead_len x k, List.length_cons, List.length_nil]
theorem aRead_size (x : Rd) : ∀ k, (aRead x k).2.1.size ≤ x.1.size
  | 0 => Nat.le_refl _
  | k + 1 => by
    have h1 := aRead_size x k
    have h2 := Rd.num_size (aRead x k).2
    show (aRead x k).2.num.2.1.size ≤ _
    omega
def zints : Nat → List Value
  | 0 => []
  | m + 1 => .int .i64 0 :: zints m
def aCells (l : List Int) (m : Nat) : Array Value := (ints l ++ zints (m - l.length)).toArray
theorem zints_len : ∀ m, (zints m).length = m
  | 0 => rfl
  | m + 1 => by simp [zints, zints_len m]
theorem aCells_size (l : List Int) (m : Nat) (h : l.length ≤ m) : (aCells l m).size = m := by simp [aCells, ints, zints_len]; omega
theorem aCells_set {l : List Int} {m k : Nat} (c : Int) (h : l.length = k) (hm : k < m) : (aCells l m).setIfInBounds k (.int .i64 c) = aCells (l ++ [c]) m := by
  obtain ⟨r, hr⟩ : ∃ r, m - k = r + 1 := ⟨m - k - 1, by omega⟩
  unfold aCells
  rw [h, hr, show m - (l ++ [c]).length = r by simp; omega]
  show (ints l ++ .int .i64 0 :: zints r).toArray.setIfInBounds k (.int .i64 c) = _
  rw [set_mid (by simp [ints]; omega)]
  simp [ints]
theorem aCells_full (l : List Int) : aCells l l.length = (ints l).toArray := by simp [aCells, zints]
theorem made_zints : ∀ m, madeCells #[.int .i64 0] (m * 1) = (zints m).toArray := by
  intro m
  rw [Nat.mul_one]
  apply Array.ext'
  rw [show (zints m).toArray.toList = zints m from rfl]
  unfold madeCells
  rw [Array.toList_map, Array.toList_range]
  induction m with
  | zero => rfl
  | succ m ih =>
    rw [List.range_succ_eq_map, List.map_cons, List.map_map, zints, ← ih]
    congr 1
    apply List.map_congr_left
    intro i _
    show #[_][(i + 1) % 1]! = #[_][i % 1]!
    rw [Nat.mod_one, Nat.mod_one]
def aIt (b : Nat) (l : List Int) : It := if l.length = 0 then .nil else .blk b 3 (ints l).toArray
def dX1 (cs : Array Value) (x : Rd) : Array Value × Rd := insN (cs, x) [2, 3, 4, 5, 6, 7, 8, 9, 10, 11, 12, 13, 14, 15]
def dY1 (x : Rd) : Rd := (insN (#[], x) [2, 3, 4, 5, 6, 7, 8, 9, 10, 11, 12, 13, 14, 15]).2
theorem insN_rd (l : List Nat) : ∀ (cs ds : Array Value) (x : Rd), (insN (cs, x) l).2 = (insN (ds, x) l).2 := by
  induction l with
  | nil => intro cs ds x; rfl
  | cons o r ih => intro cs ds x; exact ih _ _ _
def dY4 (x : Rd) : Rd := ((((dY1 x).bool.2.num.2).text 200).2.text 200).2
def dY7 (x : Rd) : Rd := (dY4 x).num.2.num.2
def dY8 (x : Rd) : Rd := (dY7 x).bool.2
def dM (x : Rd) : Nat := (cntR 4 (dY8 x)).toNat
def dA (x : Rd) : List Int × Rd := aRead (dY8 x).num.2 (dM x)
/-- The cells before the list. -/
def dC8 (cs : Array Value) (x : Rd) : Array Value :=
  (insN ((((((insN (cs, x) [2, 3, 4, 5, 6, 7, 8, 9, 10, 11, 12, 13, 14, 15]).1.setIfInBounds 16 (.bool (dY1 x).bool.1)).setIfInBounds 17 (.int .i64 (clampN (dY1 x).bool.2.num.1))).setIfInBounds 18 (.string ((dY1 x).bool.2.num.2.text 200).1)).setIfInBounds 19 (.string (((dY1 x).bool.2.num.2.text 200).2.text 200).1)), dY4 x) [20, 21]).1.setIfInBounds 22 (.bool (dY7 x).bool.1)
def dC (cs : Array Value) (x : Rd) (v : Value) : Array Value := ((dC8 cs x).setIfInBounds 23 v).setIfInBounds 24 (.int .i64 (clampN (dA x).2.num.1))
theorem cntR_le4 (x : Rd) : 0 ≤ cntR 4 x ∧ cntR 4 x ≤ 5 := by
  unfold cntR
  split <;> omega
theorem insN_get {l : List Nat} {j : Nat} (hj : ¬ j ∈ l) : ∀ (cs : Array Value) (x : Rd), (insN (cs, x) l).1[j]? = cs[j]? := by
  induction l with
  | nil => intro cs x; rfl
  | cons o r ih =>
    intro cs x
    rw [List.mem_cons, not_or] at hj
    show (insN (cs.setIfInBounds o _, x.num.2) r).1[j]? = _
    rw [ih hj.2, Array.getElem?_setIfInBounds_ne (fun h => hj.1 h.symm)]
theorem dC8_size (cs : Array Value) (x : Rd) : (dC8 cs x).size = cs.size := by
  unfold dC8
  rw [Array.size_setIfInBounds, (insN_size [20, 21] _).1]
  simp only [Array.size_setIfInBounds]
  exact (insN_size _ (cs, x)).1
theorem dC8_get (cs : Array Value) (x : Rd) : (dC8 cs x)[23]? = cs[23]? := by
  unfold dC8
  rw [Array.getElem?_setIfInBounds_ne (by decide), insN_get (by decide), Array.getElem?_setIfInBounds_ne (by decide), Array.getElem?_setIfInBounds_ne (by decide), Array.getElem?_setIfInBounds_ne (by decide), Array.getElem?_setIfInBounds_ne (by decide), insN_get (by decide)]

set_option maxHeartbeats 2000000 in
set_option maxRecDepth 100000 in
theorem data_r (r c q : Nat) (x : Rd) (out : ByteArray) (cs : Array Value) (w0 w : World) (H : List It) (hst : St w0 (rdB r x :: cB c out (some ⟨r, 0, none⟩) :: .blk q 34 cs :: H) w) (hsz : x.1.size < 4294967296) (hcs : cs.size = 33) (h23 : cs[23]? = some vnil) :
    Calls Tryz.prog 194 #[.pointer (some ⟨c, 0, none⟩), .pointer (some ⟨q, 0, none⟩)] w (fun en w' => ∃ b : Nat, en = .returned (.tuple #[]) ∧ St w0 (rdB r (dA x).2.num.2 :: cB c out (some ⟨r, 0, none⟩) :: aIt b (dA x).1 :: .blk q 34 (dC cs x (gVal b (dM x))) :: H) w') := by
  have hi14 : (insN (cs, x) [2, 3, 4, 5, 6, 7, 8, 9, 10, 11, 12, 13, 14, 15]).1.size = cs.size := (insN_size _ (cs, x)).1
  have hy1 : (dY1 x).1.size ≤ x.1.size := (insN_size _ ((#[] : Array Value), x)).2
  have ey1 : (insN (cs, x) [2, 3, 4, 5, 6, 7, 8, 9, 10, 11, 12, 13, 14, 15]).2 = dY1 x := insN_rd _ _ _ _
  have hb1 := Rd.bool_size (dY1 x)
  have hb2 := Rd.num_size (dY1 x).bool.2
  have hb3 := Rd.text_size (dY1 x).bool.2.num.2 200
  have hb4 := Rd.text_size ((dY1 x).bool.2.num.2.text 200).2 200
  have hb5 := Rd.num_size (dY4 x)
  have hb6 := Rd.num_size (dY4 x).num.2
  have hb7 := Rd.bool_size (dY7 x)
  have hb8 := Rd.num_size (dY8 x)
  have hs4 : (dY4 x).1.size < 4294967296 := by show ((((dY1 x).bool.2.num.2).text 200).2.text 200).2.1.size < _; omega
  have hs7 : (dY7 x).1.size < 4294967296 := by show (dY4 x).num.2.num.2.1.size < _; omega
  have hs8 : (dY8 x).1.size < 4294967296 := by show (dY7 x).bool.2.1.size < _; omega
  have hcn := cntR_le4 (dY8 x)
  have hpn : dM x ≤ 5 := by unfold dM; omega
  have h23' : (dC8 cs x)[23]? = some vnil := (dC8_get cs x).trans h23
  refine enterH Tryz.func194 rfl Tryz.ntmps194 rfl hst ?_
  refine WC.seq ?_
  refine WC.region ?_
  refine WL.p rfl rfl rfl (P.move rfl) ?_
  refine WL.p rfl rfl rfl (P.nilCheck rfl) ?_
  refine WL.p rfl rfl rfl (P.fieldAddr fa_34_2 rfl) ?_
  refine WL.p rfl rfl rfl (P.assign rfl) ?_
  refine WL.nil_ ?_
  refine End.seq ?_
  refine WC.seq ?_
  refine WC.nil1 ?_
  apply WC.draws (al := [43]) (vs := [_, _, _, _, _, _, _, _, _, _, _, _, _, _, _, _, _, _, _, _, _, _, _, _, _, _, _, _, _, _, _, _, _, _, _, _, _, _, _, _, _, _, _, fun s => .slice (some ⟨(s 43).1, 0, none⟩) 14 14, _]) (Hs := fun v HH b s => (bif b 44 then ((.blk (s 43).1 222 (rowO q [2, 3, 4, 5, 6, 7, 8, 9, 10, 11, 12, 13, 14, 15]) :: rdB r (insN (cs, x) [2, 3, 4, 5, 6, 7, 8, 9, 10, 11, 12, 13, 14, 15]).2 :: cB c out (some ⟨r, 0, none⟩) :: .blk q 34 (insN (cs, x) [2, 3, 4, 5, 6, 7, 8, 9, 10, 11, 12, 13, 14, 15]).1 :: H)) else (bnew (b 43) (It.blk (s 43).1 222 #[.pointer (some ⟨q, 2, none⟩), .pointer (some ⟨q, 3, none⟩), .pointer (some ⟨q, 4, none⟩), .pointer (some ⟨q, 5, none⟩), .pointer (some ⟨q, 6, none⟩), .pointer (some ⟨q, 7, none⟩), .pointer (some ⟨q, 8, none⟩), .pointer (some ⟨q, 9, none⟩), .pointer (some ⟨q, 10, none⟩), .pointer (some ⟨q, 11, none⟩), .pointer (some ⟨q, 12, none⟩), .pointer (some ⟨q, 13, none⟩), .pointer (some ⟨q, 14, none⟩), .pointer (some ⟨q, 15, none⟩)]) HH 0))) (by kernel_rfl) (by kernel_rfl) (by kernel_rfl)
  case steps =>
    refine Stps.cons (Stp.off [44] (by kernel_rfl) (Stp.p (fun b s hd => ⟨_, ⟨rfl, P.move rfl⟩, rfl, rfl⟩))) ?_
    refine Stps.cons (Stp.off [44] (by kernel_rfl) (Stp.p (fun b s hd => ⟨_, ⟨rfl, P.move rfl⟩, rfl, rfl⟩))) ?_
    refine Stps.cons (Stp.off [44] (by kernel_rfl) (Stp.p (fun b s hd => ⟨_, ⟨rfl, P.nilCheck rfl⟩, rfl, rfl⟩))) ?_
    refine Stps.cons (Stp.off [44] (by kernel_rfl) (Stp.p (fun b s hd => ⟨_, ⟨rfl, P.fieldAddr fa_31_0 rfl⟩, rfl, rfl⟩))) ?_
    refine Stps.cons (Stp.off [44] (by kernel_rfl) (Stp.p (fun b s hd => ⟨_, ⟨rfl, P.move rfl⟩, rfl, rfl⟩))) ?_
    refine Stps.cons (Stp.off [44] (by kernel_rfl) (Stp.p (fun b s hd => ⟨_, ⟨rfl, P.nilCheck rfl⟩, rfl, rfl⟩))) ?_
    refine Stps.cons (Stp.off [44] (by kernel_rfl) (Stp.p (fun b s hd => ⟨_, ⟨rfl, P.fieldAddr fa_31_1 rfl⟩, rfl, rfl⟩))) ?_
    refine Stps.cons (Stp.off [44] (by kernel_rfl) (Stp.p (fun b s hd => ⟨_, ⟨rfl, P.move rfl⟩, rfl, rfl⟩))) ?_
    refine Stps.cons (Stp.off [44] (by kernel_rfl) (Stp.p (fun b s hd => ⟨_, ⟨rfl, P.nilCheck rfl⟩, rfl, rfl⟩))) ?_
    refine Stps.cons (Stp.off [44] (by kernel_rfl) (Stp.p (fun b s hd => ⟨_, ⟨rfl, P.fieldAddr fa_31_2 rfl⟩, rfl, rfl⟩))) ?_
    refine Stps.cons (Stp.off [44] (by kernel_rfl) (Stp.p (fun b s hd => ⟨_, ⟨rfl, P.move rfl⟩, rfl, rfl⟩))) ?_
    refine Stps.cons (Stp.off [44] (by kernel_rfl) (Stp.p (fun b s hd => ⟨_, ⟨rfl, P.nilCheck rfl⟩, rfl, rfl⟩))) ?_
    refine Stps.cons (Stp.off [44] (by kernel_rfl) (Stp.p (fun b s hd => ⟨_, ⟨rfl, P.fieldAddr fa_31_3 rfl⟩, rfl, rfl⟩))) ?_
    refine Stps.cons (Stp.off [44] (by kernel_rfl) (Stp.p (fun b s hd => ⟨_, ⟨rfl, P.move rfl⟩, rfl, rfl⟩))) ?_
    refine Stps.cons (Stp.off [44] (by kernel_rfl) (Stp.p (fun b s hd => ⟨_, ⟨rfl, P.nilCheck rfl⟩, rfl, rfl⟩))) ?_
    refine Stps.cons (Stp.off [44] (by kernel_rfl) (Stp.p (fun b s hd => ⟨_, ⟨rfl, P.fieldAddr fa_31_4 rfl⟩, rfl, rfl⟩))) ?_
    refine Stps.cons (Stp.off [44] (by kernel_rfl) (Stp.p (fun b s hd => ⟨_, ⟨rfl, P.move rfl⟩, rfl, rfl⟩))) ?_
    refine Stps.cons (Stp.off [44] (by kernel_rfl) (Stp.p (fun b s hd => ⟨_, ⟨rfl, P.nilCheck rfl⟩, rfl, rfl⟩))) ?_
    refine Stps.cons (Stp.off [44] (by kernel_rfl) (Stp.p (fun b s hd => ⟨_, ⟨rfl, P.fieldAddr fa_31_5 rfl⟩, rfl, rfl⟩))) ?_
    refine Stps.cons (Stp.off [44] (by kernel_rfl) (Stp.p (fun b s hd => ⟨_, ⟨rfl, P.move rfl⟩, rfl, rfl⟩))) ?_
    refine Stps.cons (Stp.off [44] (by kernel_rfl) (Stp.p (fun b s hd => ⟨_, ⟨rfl, P.nilCheck rfl⟩, rfl, rfl⟩))) ?_
    refine Stps.cons (Stp.off [44] (by kernel_rfl) (Stp.p (fun b s hd => ⟨_, ⟨rfl, P.fieldAddr fa_31_6 rfl⟩, rfl, rfl⟩))) ?_
    refine Stps.cons (Stp.off [44] (by kernel_rfl) (Stp.p (fun b s hd => ⟨_, ⟨rfl, P.move rfl⟩, rfl, rfl⟩))) ?_
    refine Stps.cons (Stp.off [44] (by kernel_rfl) (Stp.p (fun b s hd => ⟨_, ⟨rfl, P.nilCheck rfl⟩, rfl, rfl⟩))) ?_
    refine Stps.cons (Stp.off [44] (by kernel_rfl) (Stp.p (fun b s hd => ⟨_, ⟨rfl, P.fieldAddr fa_31_7 rfl⟩, rfl, rfl⟩))) ?_
    refine Stps.cons (Stp.off [44] (by kernel_rfl) (Stp.p (fun b s hd => ⟨_, ⟨rfl, P.move rfl⟩, rfl, rfl⟩))) ?_
    refine Stps.cons (Stp.off [44] (by kernel_rfl) (Stp.p (fun b s hd => ⟨_, ⟨rfl, P.nilCheck rfl⟩, rfl, rfl⟩))) ?_
    refine Stps.cons (Stp.off [44] (by kernel_rfl) (Stp.p (fun b s hd => ⟨_, ⟨rfl, P.fieldAddr fa_31_8 rfl⟩, rfl, rfl⟩))) ?_
    refine Stps.cons (Stp.off [44] (by kernel_rfl) (Stp.p (fun b s hd => ⟨_, ⟨rfl, P.move rfl⟩, rfl, rfl⟩))) ?_
    refine Stps.cons (Stp.off [44] (by kernel_rfl) (Stp.p (fun b s hd => ⟨_, ⟨rfl, P.nilCheck rfl⟩, rfl, rfl⟩))) ?_
    refine Stps.cons (Stp.off [44] (by kernel_rfl) (Stp.p (fun b s hd => ⟨_, ⟨rfl, P.fieldAddr fa_31_9 rfl⟩, rfl, rfl⟩))) ?_
    refine Stps.cons (Stp.off [44] (by kernel_rfl) (Stp.p (fun b s hd => ⟨_, ⟨rfl, P.move rfl⟩, rfl, rfl⟩))) ?_
    refine Stps.cons (Stp.off [44] (by kernel_rfl) (Stp.p (fun b s hd => ⟨_, ⟨rfl, P.nilCheck rfl⟩, rfl, rfl⟩))) ?_
    refine Stps.cons (Stp.off [44] (by kernel_rfl) (Stp.p (fun b s hd => ⟨_, ⟨rfl, P.fieldAddr fa_31_10 rfl⟩, rfl, rfl⟩))) ?_
    refine Stps.cons (Stp.off [44] (by kernel_rfl) (Stp.p (fun b s hd => ⟨_, ⟨rfl, P.move rfl⟩, rfl, rfl⟩))) ?_
    refine Stps.cons (Stp.off [44] (by kernel_rfl) (Stp.p (fun b s hd => ⟨_, ⟨rfl, P.nilCheck rfl⟩, rfl, rfl⟩))) ?_
    refine Stps.cons (Stp.off [44] (by kernel_rfl) (Stp.p (fun b s hd => ⟨_, ⟨rfl, P.fieldAddr fa_31_11 rfl⟩, rfl, rfl⟩))) ?_
    refine Stps.cons (Stp.off [44] (by kernel_rfl) (Stp.p (fun b s hd => ⟨_, ⟨rfl, P.move rfl⟩, rfl, rfl⟩))) ?_
    refine Stps.cons (Stp.off [44] (by kernel_rfl) (Stp.p (fun b s hd => ⟨_, ⟨rfl, P.nilCheck rfl⟩, rfl, rfl⟩))) ?_
    refine Stps.cons (Stp.off [44] (by kernel_rfl) (Stp.p (fun b s hd => ⟨_, ⟨rfl, P.fieldAddr fa_31_12 rfl⟩, rfl, rfl⟩))) ?_
    refine Stps.cons (Stp.off [44] (by kernel_rfl) (Stp.p (fun b s hd => ⟨_, ⟨rfl, P.move rfl⟩, rfl, rfl⟩))) ?_
    refine Stps.cons (Stp.off [44] (by kernel_rfl) (Stp.p (fun b s hd => ⟨_, ⟨rfl, P.nilCheck rfl⟩, rfl, rfl⟩))) ?_
    refine Stps.cons (Stp.off [44] (by kernel_rfl) (Stp.p (fun b s hd => ⟨_, ⟨rfl, P.fieldAddr fa_31_13 rfl⟩, rfl, rfl⟩))) ?_
    refine Stps.cons (Stp.off [44] (by kernel_rfl) (Stp.row 0 rfl (fun b s => ⟨rfl, _, _, rfl, fun w => by refine run_rowL Tryz.underlying273 Tryz.sizeOf222 Tryz.zeroValue222 ?_ ?_ ?_ ?_ ?_ ?_ w <;> rfl, fun q => ⟨rfl, _, rfl, fun hb => rfl⟩⟩))) ?_
    refine Stps.cons (Stp.callo (ent_of Tryz.func197 rfl rfl) (fun b s hb hd => ⟨_, _, (.blk (s 43).1 222 (rowO q [2, 3, 4, 5, 6, 7, 8, 9, 10, 11, 12, 13, 14, 15]) :: rdB r x :: cB c out (some ⟨r, 0, none⟩) :: .blk q 34 cs :: H), _, rfl, rfl, (by show (bif b 44 then _ else bnew (b 43) _ _ _) = _; rw [hb, hd 43 (by decide)]; rfl), fun w hs => numbers_r r c q 34 (s 43).1 x out cs [2, 3, 4, 5, 6, 7, 8, 9, 10, 11, 12, 13, 14, 15] w0 w _ hs hsz (by rw [hcs]; decide) (by decide), rfl, rfl⟩)) ?_
    exact Stps.nil
  case h0 => exact fun s => rfl
  case agree => exact AgrAll.cons (AgrL.no (fun s x => rfl) (AgrL.no (fun s x => rfl) (AgrL.no (fun s x => rfl) (AgrL.no (fun s x => rfl) (AgrL.no (fun s x => rfl) (AgrL.no (fun s x => rfl) (AgrL.no (fun s x => rfl) (AgrL.no (fun s x => rfl) (AgrL.no (fun s x => rfl) (AgrL.no (fun s x => rfl) (AgrL.no (fun s x => rfl) (AgrL.no (fun s x => rfl) (AgrL.no (fun s x => rfl) (AgrL.no (fun s x => rfl) (AgrL.no (fun s x => rfl) (AgrL.no (fun s x => rfl) (AgrL.no (fun s x => rfl) (AgrL.no (fun s x => rfl) (AgrL.no (fun s x => rfl) (AgrL.no (fun s x => rfl) (AgrL.no (fun s x => rfl) (AgrL.no (fun s x => rfl) (AgrL.no (fun s x => rfl) (AgrL.no (fun s x => rfl) (AgrL.no (fun s x => rfl) (AgrL.no (fun s x => rfl) (AgrL.no (fun s x => rfl) (AgrL.no (fun s x => rfl) (AgrL.no (fun s x => rfl) (AgrL.no (fun s x => rfl) (AgrL.no (fun s x => rfl) (AgrL.no (fun s x => rfl) (AgrL.no (fun s x => rfl) (AgrL.no (fun s x => rfl) (AgrL.no (fun s x => rfl) (AgrL.no (fun s x => rfl) (AgrL.no (fun s x => rfl) (AgrL.no (fun s x => rfl) (AgrL.no (fun s x => rfl) (AgrL.no (fun s x => rfl) (AgrL.no (fun s x => rfl) (AgrL.no (fun s x => rfl) (AgrL.no (fun s x => rfl) (AgrL.yes (by kernel_rfl) (AgrL.yes (by kernel_rfl) (AgrL.nil)))))))))))))))))))))))))))))))))))))))))))))) (AgrAll.nil)
  intro s1
  refine End.shape (ρ' := [(0, _), (1, _), (4, _), (7, _), (8, _), (9, _), (10, _), (11, _), (12, _), (13, _), (14, _), (15, _), (16, _), (17, _), (18, _), (19, _), (20, _), (21, _), (22, _), (23, _), (24, _), (25, _), (26, _), (27, _), (28, _), (29, _), (30, _), (31, _), (32, _), (33, _), (34, _), (35, _), (36, _), (37, _), (38, _), (39, _), (40, _), (41, _), (42, _), (43, _), (44, _), (45, _), (46, _), (47, _), (48, _), (49, _), (50, _), (51, _), (52, _), (53, _), (54, _)]) (H' := _ :: _ :: _ :: _ :: H) (Env.sub_cons rfl (Env.sub_cons rfl (Env.sub_cons rfl (Env.sub_cons rfl (Env.sub_cons rfl (Env.sub_cons rfl (Env.sub_cons rfl (Env.sub_cons rfl (Env.sub_cons rfl (Env.sub_cons rfl (Env.sub_cons rfl (Env.sub_cons rfl (Env.sub_cons rfl (Env.sub_cons rfl (Env.sub_cons rfl (Env.sub_cons rfl (Env.sub_cons rfl (Env.sub_cons rfl (Env.sub_cons rfl (Env.sub_cons rfl (Env.sub_cons rfl (Env.sub_cons rfl (Env.sub_cons rfl (Env.sub_cons rfl (Env.sub_cons rfl (Env.sub_cons rfl (Env.sub_cons rfl (Env.sub_cons rfl (Env.sub_cons rfl (Env.sub_cons rfl (Env.sub_cons rfl (Env.sub_cons rfl (Env.sub_cons rfl (Env.sub_cons rfl (Env.sub_cons rfl (Env.sub_cons rfl (Env.sub_cons rfl (Env.sub_cons rfl (Env.sub_cons rfl (Env.sub_cons rfl (Env.sub_cons rfl (Env.sub_cons rfl (Env.sub_cons rfl (Env.sub_cons rfl (Env.sub_cons rfl (Env.sub_cons rfl (Env.sub_cons rfl (Env.sub_cons rfl (Env.sub_cons rfl (Env.sub_cons rfl (Env.sub_cons rfl (Env.sub_nil)))))))))))))))))))))))))))))))))))))))))))))))))))) rfl ?_
  refine End.seq ?_
  refine WC.seq ?_
  refine WC.region ?_
  refine WL.conv (fun w hs => hs.tail) ?_
  rw [ey1]
  refine WL.p rfl rfl rfl (P.move rfl) ?_
  refine WL.p rfl rfl rfl (P.move rfl) ?_
  refine WL.p rfl rfl rfl (P.nilCheck rfl) ?_
  refine WL.p rfl rfl rfl (P.fieldAddr fa_31_14 rfl) ?_
  refine WL.callo (H' := _) (ent_of Tryz.func198 rfl rfl) rfl rfl rfl (fun w hs => truth_r r c q 34 16 (dY1 x) out _ w0 w _ hs (by omega) (by rw [hi14, hcs]; rfl)) ?_
  refine WL.nil_ ?_
  refine End.seq ?_
  refine WC.seq ?_
  refine WC.region ?_
  refine WL.p rfl rfl rfl (P.move rfl) ?_
  refine WL.p rfl rfl rfl (P.move rfl) ?_
  refine WL.p rfl rfl rfl (P.nilCheck rfl) ?_
  refine WL.p rfl rfl rfl (P.fieldAddr fa_31_15 rfl) ?_
  refine WL.callo (H' := _) (ent_of Tryz.func210 rfl rfl) rfl rfl rfl (fun w hs => number_r r c q 34 17 _ out _ w0 w _ hs (by omega) (by simp only [Array.size_setIfInBounds]; rw [hi14, hcs]; rfl)) ?_
  refine WL.nil_ ?_
  refine End.seq ?_
  refine WC.seq ?_
  refine WC.region ?_
  refine WL.p rfl rfl rfl (P.move rfl) ?_
  refine WL.p rfl rfl rfl (P.move rfl) ?_
  refine WL.p rfl rfl rfl (P.nilCheck rfl) ?_
  refine WL.p rfl rfl rfl (P.fieldAddr fa_31_16 rfl) ?_
  refine WL.callo (H' := _) (ent_of Tryz.func199 rfl rfl) rfl rfl rfl (fun w hs => text_r r c q 34 18 _ out _ w0 w _ hs (by omega) (by simp only [Array.size_setIfInBounds]; rw [hi14, hcs]; rfl)) ?_
  refine WL.nil_ ?_
  refine End.seq ?_
  refine WC.seq ?_
  refine WC.region ?_
  refine WL.p rfl rfl rfl (P.move rfl) ?_
  refine WL.p rfl rfl rfl (P.move rfl) ?_
  refine WL.p rfl rfl rfl (P.nilCheck rfl) ?_
  refine WL.p rfl rfl rfl (P.fieldAddr fa_31_17 rfl) ?_
  refine WL.callo (H' := _) (ent_of Tryz.func199 rfl rfl) rfl rfl rfl (fun w hs => text_r r c q 34 19 _ out _ w0 w _ hs (by omega) (by simp only [Array.size_setIfInBounds]; rw [hi14, hcs]; rfl)) ?_
  refine WL.nil_ ?_
  refine End.seq ?_
  refine WC.seq ?_
  refine WC.nil1 ?_
  apply WC.draws (al := [7]) (vs := [_, _, _, _, _, _, _, fun s => .slice (some ⟨(s 7).1, 0, none⟩) 2 2, _]) (Hs := fun v HH b s => (bif b 8 then ((.blk (s 7).1 222 (rowO q [20, 21]) :: rdB r (dY7 x) :: cB c out (some ⟨r, 0, none⟩) :: .blk q 34 (insN (((((insN (cs, x) [2, 3, 4, 5, 6, 7, 8, 9, 10, 11, 12, 13, 14, 15]).1.setIfInBounds 16 (.bool (dY1 x).bool.1)).setIfInBounds 17 (.int .i64 (clampN (dY1 x).bool.2.num.1))).setIfInBounds 18 (.string ((dY1 x).bool.2.num.2.text 200).1)).setIfInBounds 19 (.string (((dY1 x).bool.2.num.2.text 200).2.text 200).1), dY4 x) [20, 21]).1 :: H)) else (bnew (b 7) (It.blk (s 7).1 222 #[.pointer (some ⟨q, 20, none⟩), .pointer (some ⟨q, 21, none⟩)]) HH 0))) (by kernel_rfl) (by kernel_rfl) (by kernel_rfl)
  case steps =>
    refine Stps.cons (Stp.off [8] (by kernel_rfl) (Stp.p (fun b s hd => ⟨_, ⟨rfl, P.move rfl⟩, rfl, rfl⟩))) ?_
    refine Stps.cons (Stp.off [8] (by kernel_rfl) (Stp.p (fun b s hd => ⟨_, ⟨rfl, P.move rfl⟩, rfl, rfl⟩))) ?_
    refine Stps.cons (Stp.off [8] (by kernel_rfl) (Stp.p (fun b s hd => ⟨_, ⟨rfl, P.nilCheck rfl⟩, rfl, rfl⟩))) ?_
    refine Stps.cons (Stp.off [8] (by kernel_rfl) (Stp.p (fun b s hd => ⟨_, ⟨rfl, P.fieldAddr fa_31_18 rfl⟩, rfl, rfl⟩))) ?_
    refine Stps.cons (Stp.off [8] (by kernel_rfl) (Stp.p (fun b s hd => ⟨_, ⟨rfl, P.move rfl⟩, rfl, rfl⟩))) ?_
    refine Stps.cons (Stp.off [8] (by kernel_rfl) (Stp.p (fun b s hd => ⟨_, ⟨rfl, P.nilCheck rfl⟩, rfl, rfl⟩))) ?_
    refine Stps.cons (Stp.off [8] (by kernel_rfl) (Stp.p (fun b s hd => ⟨_, ⟨rfl, P.fieldAddr fa_31_19 rfl⟩, rfl, rfl⟩))) ?_
    refine Stps.cons (Stp.off [8] (by kernel_rfl) (Stp.row 0 rfl (fun b s => ⟨rfl, _, _, rfl, fun w => by refine run_rowL Tryz.underlying273 Tryz.sizeOf222 Tryz.zeroValue222 ?_ ?_ ?_ ?_ ?_ ?_ w <;> rfl, fun q => ⟨rfl, _, rfl, fun hb => rfl⟩⟩))) ?_
    refine Stps.cons (Stp.callo (ent_of Tryz.func197 rfl rfl) (fun b s hb hd => ⟨_, _, (.blk (s 7).1 222 (rowO q [20, 21]) :: rdB r (dY4 x) :: cB c out (some ⟨r, 0, none⟩) :: .blk q 34 (((((insN (cs, x) [2, 3, 4, 5, 6, 7, 8, 9, 10, 11, 12, 13, 14, 15]).1.setIfInBounds 16 (.bool (dY1 x).bool.1)).setIfInBounds 17 (.int .i64 (clampN (dY1 x).bool.2.num.1))).setIfInBounds 18 (.string ((dY1 x).bool.2.num.2.text 200).1)).setIfInBounds 19 (.string (((dY1 x).bool.2.num.2.text 200).2.text 200).1)) :: H), _, rfl, rfl, (by show (bif b 8 then _ else bnew (b 7) _ _ _) = _; rw [hb, hd 7 (by decide)]; rfl), fun w hs => numbers_r r c q 34 (s 7).1 (dY4 x) out (((((insN (cs, x) [2, 3, 4, 5, 6, 7, 8, 9, 10, 11, 12, 13, 14, 15]).1.setIfInBounds 16 (.bool (dY1 x).bool.1)).setIfInBounds 17 (.int .i64 (clampN (dY1 x).bool.2.num.1))).setIfInBounds 18 (.string ((dY1 x).bool.2.num.2.text 200).1)).setIfInBounds 19 (.string (((dY1 x).bool.2.num.2.text 200).2.text 200).1)) [20, 21] w0 w _ hs hs4 (by simp only [Array.size_setIfInBounds]; rw [hi14, hcs]; decide) (by decide), rfl, rfl⟩)) ?_
    exact Stps.nil
  case h0 => exact fun s => rfl
  case agree => exact AgrAll.cons (AgrL.no (fun s x => rfl) (AgrL.no (fun s x => rfl) (AgrL.no (fun s x => rfl) (AgrL.no (fun s x => rfl) (AgrL.no (fun s x => rfl) (AgrL.no (fun s x => rfl) (AgrL.no (fun s x => rfl) (AgrL.yes (by kernel_rfl) (AgrL.yes (by kernel_rfl) (AgrL.nil)))))))))) (AgrAll.nil)
  intro s6
  refine End.shape (ρ' := [(0, _), (1, _), (4, _), (7, _), (8, _), (9, _), (10, _), (11, _), (12, _), (13, _), (14, _), (15, _), (16, _), (17, _), (18, _), (19, _), (20, _), (21, _), (22, _), (23, _), (24, _), (25, _), (26, _), (27, _), (28, _), (29, _), (30, _), (31, _), (32, _), (33, _), (34, _), (35, _), (36, _), (37, _), (38, _), (39, _), (40, _), (41, _), (42, _), (43, _), (44, _), (45, _), (46, _), (47, _), (48, _), (49, _), (50, _), (51, _), (52, _), (53, _), (54, _), (55, _), (56, _), (57, _), (58, _), (59, _), (60, _), (61, _), (62, _), (63, _), (64, _), (65, _), (66, _), (67, _), (68, _), (69, _), (70, _), (71, _), (72, _), (73, _), (74, _), (75, _), (76, _), (77, _), (78, _), (79, _), (80, _), (81, _), (82, _), (83, _)]) (H' := _ :: _ :: _ :: _ :: H) (Env.sub_cons rfl (Env.sub_cons rfl (Env.sub_cons rfl (Env.sub_cons rfl (Env.sub_cons rfl (Env.sub_cons rfl (Env.sub_cons rfl (Env.sub_cons rfl (Env.sub_cons rfl (Env.sub_cons rfl (Env.sub_cons rfl (Env.sub_cons rfl (Env.sub_cons rfl (Env.sub_cons rfl (Env.sub_cons rfl (Env.sub_cons rfl (Env.sub_cons rfl (Env.sub_cons rfl (Env.sub_cons rfl (Env.sub_cons rfl (Env.sub_cons rfl (Env.sub_cons rfl (Env.sub_cons rfl (Env.sub_cons rfl (Env.sub_cons rfl (Env.sub_cons rfl (Env.sub_cons rfl (Env.sub_cons rfl (Env.sub_cons rfl (Env.sub_cons rfl (Env.sub_cons rfl (Env.sub_cons rfl (Env.sub_cons rfl (Env.sub_cons rfl (Env.sub_cons rfl (Env.sub_cons rfl (Env.sub_cons rfl (Env.sub_cons rfl (Env.sub_cons rfl (Env.sub_cons rfl (Env.sub_cons rfl (Env.sub_cons rfl (Env.sub_cons rfl (Env.sub_cons rfl (Env.sub_cons rfl (Env.sub_cons rfl (Env.sub_cons rfl (Env.sub_cons rfl (Env.sub_cons rfl (Env.sub_cons rfl (Env.sub_cons rfl (Env.sub_cons rfl (Env.sub_cons rfl (Env.sub_cons rfl (Env.sub_cons rfl (Env.sub_cons rfl (Env.sub_cons rfl (Env.sub_cons rfl (Env.sub_cons rfl (Env.sub_cons rfl (Env.sub_cons rfl (Env.sub_cons rfl (Env.sub_cons rfl (Env.sub_cons rfl (Env.sub_cons rfl (Env.sub_cons rfl (Env.sub_cons rfl (Env.sub_cons rfl (Env.sub_cons rfl (Env.sub_cons rfl (Env.sub_cons rfl (Env.sub_cons rfl (Env.sub_cons rfl (Env.sub_cons rfl (Env.sub_cons rfl (Env.sub_cons rfl (Env.sub_cons rfl (Env.sub_cons rfl (Env.sub_cons rfl (Env.sub_cons rfl (Env.sub_nil))))))))))))))))))))))))))))))))))))))))))))))))))))))))))))))))))))))))))))))))) rfl ?_
  refine End.seq ?_
  refine WC.seq ?_
  refine WC.region ?_
  refine WL.conv (fun w hs => hs.tail) ?_
  refine WL.p rfl rfl rfl (P.move rfl) ?_
  refine WL.p rfl rfl rfl (P.move rfl) ?_
  refine WL.p rfl rfl rfl (P.nilCheck rfl) ?_
  refine WL.p rfl rfl rfl (P.fieldAddr fa_31_20 rfl) ?_
  refine WL.callo (H' := _) (ent_of Tryz.func198 rfl rfl) rfl rfl rfl (fun w hs => truth_r r c q 34 22 (dY7 x) out _ w0 w _ hs hs7 (by rw [(insN_size [20, 21] _).1]; simp only [Array.size_setIfInBounds]; rw [hi14, hcs]; rfl)) ?_
  refine WL.nil_ ?_
  refine End.seq ?_
  refine WC.seq ?_
  refine WC.region ?_
  refine WL.p rfl rfl rfl (P.move rfl) ?_
  refine WL.p rfl rfl rfl (P.move rfl) ?_
  refine WL.p rfl rfl rfl (P.nilCheck rfl) ?_
  refine WL.p rfl rfl rfl (P.fieldAddr fa_34_3 rfl) ?_
  refine WL.p rfl rfl rfl (P.loadO 2 Tryz.isAgg22 rfl rfl h23') ?_
  refine WL.p rfl rfl rfl (P.lenR Tryz.underlying22 rfl) ?_
  refine WL.callo (H' := _) (ent_of Tryz.func263 rfl rfl) rfl rfl rfl (fun w hs => count_r r c (dY8 x) out 0 4 w0 w _ hs hs8 (by omega)) ?_
  refine WL.p rfl rfl rfl (P.assign rfl) ?_
  refine WL.nil_ ?_
  refine End.seq ?_
  refine WC.seq ?_
  refine WC.seq ?_
  refine WC.region ?_
  refine WL.p rfl rfl rfl (P.move rfl) ?_
  refine WL.p rfl rfl rfl (P.nilCheck rfl) ?_
  refine WL.p rfl rfl rfl (P.fieldAddr fa_155_1 rfl) ?_
  refine WL.p rfl rfl rfl (P.loadO 1 Tryz.isAgg152 rfl rfl rfl) ?_
  refine WL.p rfl rfl rfl (P.neNil Tryz.underlying152 rfl rfl) ?_
  refine WL.p rfl rfl rfl (P.move rfl) ?_
  refine WL.split 101 rfl (fun hs101 => ?_) (fun hs101 => ?_)
  ·
    try simp only [decide_eq_true_eq, decide_eq_false_iff_not, beq_iff_eq, beq_eq_false_iff_ne, bne_iff_ne, bne_eq_false_iff_eq, Bool.not_eq_true', Bool.not_eq_false', ne_eq, Int.not_lt, Int.not_le] at hs101
    refine WL.p rfl rfl rfl (P.move rfl) ?_
    refine WL.p rfl rfl rfl (P.cmp rfl rfl rfl) ?_
    refine WL.p rfl rfl rfl (P.pickT rfl rfl) ?_
    refine WL.nil_ ?_
    refine End.seq ?_
    refine WC.cond rfl (fun hc104 => ?_) (fun hc104 => ?_)
    ·
      try simp only [decide_eq_true_eq, decide_eq_false_iff_not, beq_iff_eq, beq_eq_false_iff_ne, bne_iff_ne, bne_eq_false_iff_eq, Bool.not_eq_true', Bool.not_eq_false', ne_eq, Int.not_lt, Int.not_le] at hc104
      refine WC.region ?_
      refine WL.p rfl rfl rfl (P.move rfl) ?_
      refine WL.p rfl rfl rfl (P.move rfl) ?_
      refine WL.is 106 rfl (congrArg (Value.int .i64) (show cntR 4 (dY8 x) = ((dM x : Nat) : Int) from by unfold dM; omega)) ?_
      refine WL.make el22 rfl rfl rfl rfl (by unfold dM; omega) (by unfold dM; omega) (fun b107 => ?_)
      refine WL.p rfl rfl rfl (P.nilCheck rfl) ?_
      refine WL.p rfl rfl rfl (P.fieldAddr fa_34_3 rfl) ?_
      refine WL.store 3 Tryz.sizeOf22 rfl rfl rfl rfl rfl (by show Nat.blt (0 + 23) (dC8 cs x).size = true; rw [dC8_size, hcs]; rfl) ?_
      refine WL.nil_ ?_
      refine End.seq ?_
      refine WC.seq ?_
      refine WC.seq ?_
      refine WC.region ?_
      refine WL.conv (H' := rdB r (dY8 x).num.2 :: cB c out (some ⟨r, 0, none⟩) :: .blk b107 3 (aCells [] (dM x)) :: .blk q 34 ((dC8 cs x).setIfInBounds 23 (.slice (some ⟨b107, 0, none⟩) (dM x) (dM x))) :: H) (fun w hs => by have := hs.rot3; rw [show madeCells (Value.int .i64 0).cells (dM x * 1) = (zints (dM x)).toArray from made_zints _] at this; exact this) ?_
      refine WL.p rfl rfl rfl (P.move rfl) ?_
      refine WL.p rfl rfl rfl (P.nilCheck rfl) ?_
      refine WL.p rfl rfl rfl (P.fieldAddr fa_34_3 rfl) ?_
      refine WL.p rfl rfl rfl (P.loadO 3 Tryz.isAgg22 rfl rfl (by rw [Array.getElem?_setIfInBounds_self_of_lt (by rw [dC8_size, hcs]; decide)])) ?_
      refine WL.p rfl rfl rfl (P.lenR Tryz.underlying22 rfl) ?_
      refine WL.p rfl rfl rfl (P.move rfl) ?_
      refine WL.nil_ ?_
      refine End.seq ?_
      refine WC.block ?_
      refine WC.loopD (σ := Nat) (fun k => [(115, .int .i64 (k : Nat))]) (fun k => (rdB r (aRead (dY8 x).num.2 k).2 :: cB c out (some ⟨r, 0, none⟩) :: .blk b107 3 (aCells (aRead (dY8 x).num.2 k).1 (dM x)) :: .blk q 34 ((dC8 cs x).setIfInBounds 23 (.slice (some ⟨b107, 0, none⟩) (dM x) (dM x))) :: H)) (fun k => k ≤ dM x) (fun k => dM x - k) 0 (Nat.zero_le _) (Env.sub_cons rfl (Env.sub_nil)) (List.range _) selOk_range (sel_range.trans rfl) ?_
      rintro k hk
      refine WC.seq ?_
      refine WC.region ?_
      refine WL.p rfl rfl rfl (P.cmp rfl rfl rfl) ?_
      refine WL.nil_ ?_
      refine End.seq ?_
      refine WC.seq ?_
      refine WC.cond rfl (fun hc116 => ?_) (fun hc116 => ?_)
      ·
        try simp only [decide_eq_true_eq, decide_eq_false_iff_not, beq_iff_eq, beq_eq_false_iff_ne, bne_iff_ne, bne_eq_false_iff_eq, Bool.not_eq_true', Bool.not_eq_false', ne_eq, Int.not_lt, Int.not_le] at hc116
        have hzk := aRead_size (dY8 x).num.2 k
        have hlk := aRead_len (dY8 x).num.2 k
        refine WC.skip ?_
        refine End.seq ?_
        refine WC.seq ?_
        refine WC.block ?_
        refine WC.seq ?_
        refine WC.region ?_
        refine WL.p rfl rfl rfl (P.move rfl) ?_
        refine WL.p rfl rfl rfl (P.assign rfl) ?_
        refine WL.nil_ ?_
        refine End.seq ?_
        refine WC.region ?_
        refine WL.p rfl rfl rfl (P.move rfl) ?_
        refine WL.p rfl rfl rfl (P.move rfl) ?_
        refine WL.p rfl rfl rfl (P.nilCheck rfl) ?_
        refine WL.p rfl rfl rfl (P.fieldAddr fa_34_3 rfl) ?_
        refine WL.p rfl rfl rfl (P.loadO 3 Tryz.isAgg22 rfl rfl (by rw [Array.getElem?_setIfInBounds_self_of_lt (by rw [dC8_size, hcs]; decide)])) ?_
        refine WL.p rfl rfl rfl (P.move rfl) ?_
        refine WL.p rfl rfl rfl (P.elemAddr Tryz.underlying22 Tryz.sizeOf3 rfl rfl (by omega) (by omega)) ?_
        refine WL.callo (H' := _) (ent_of Tryz.func210 rfl rfl) rfl rfl rfl (fun w hs => number_r r c b107 3 _ (aRead (dY8 x).num.2 k).2 out _ w0 w _ hs (by omega) (by rw [aCells_size _ _ (by omega), Nat.blt_eq]; omega)) ?_
        refine WL.nil_ ?_
        refine End.blkN ?_
        refine End.seq ?_
        refine WC.region ?_
        refine WL.p rfl rfl rfl (P.ari64 rfl rfl rfl (by omega)) ?_
        refine WL.p rfl rfl rfl (P.move rfl) ?_
        refine WL.nil_ ?_
        refine End.againD (k + 1) ?_ ?_ rfl (Env.sub_cons rfl (Env.sub_nil)) rfl (List.range _) selOk_range (sel_range.trans (by rw [show 0 + ((k : Nat) : Int).toNat * 1 = k by omega, aCells_set _ hlk (by omega)]; rfl))
        · show k + 1 ≤ dM x; omega
        · omega
      ·
        try simp only [decide_eq_true_eq, decide_eq_false_iff_not, beq_iff_eq, beq_eq_false_iff_ne, bne_iff_ne, bne_eq_false_iff_eq, Bool.not_eq_true', Bool.not_eq_false', ne_eq, Int.not_lt, Int.not_le] at hc116
        refine WC.exit ?_
        refine End.thenX ?_
        refine End.thenX ?_
        refine End.blkX ?_
        refine End.seq ?_
        refine WC.region ?_
        have ek : k = dM x := by omega
        have e1 : (dA x).1.length = dM x := aRead_len _ _
        have hza := aRead_size (dY8 x).num.2 (dM x)
        have hza2 : (dA x).2.1.size < 4294967296 := by show (aRead (dY8 x).num.2 (dM x)).2.1.size < _; omega
        have e2 : aIt b107 (dA x).1 = .blk b107 3 (aCells (aRead (dY8 x).num.2 k).1 (dM x)) := by rw [aIt, if_neg (by rw [e1]; unfold dM; omega), ← aCells_full, e1, ek]; rfl
        have e3 : gVal b107 (dM x) = .slice (some ⟨b107, 0, none⟩) (dM x) (dM x) := by rw [gVal, if_neg (by unfold dM; omega)]
        refine WL.conv (H' := rdB r (dA x).2 :: cB c out (some ⟨r, 0, none⟩) :: aIt b107 (dA x).1 :: .blk q 34 ((dC8 cs x).setIfInBounds 23 (gVal b107 (dM x))) :: H) (fun w hs => by rw [e2, e3, dA, ← ek]; rw [← ek] at hs; exact hs) ?_
        refine WL.p rfl rfl rfl (P.move rfl) ?_
        refine WL.p rfl rfl rfl (P.move rfl) ?_
        refine WL.p rfl rfl rfl (P.nilCheck rfl) ?_
        refine WL.p rfl rfl rfl (P.fieldAddr fa_34_4 rfl) ?_
        refine WL.callo (H' := _) (ent_of Tryz.func210 rfl rfl) rfl rfl rfl (fun w hs => (number_r r c q 34 24 (dA x).2 out _ w0 w _ hs.rot.rot.swap2.rot.rot (by omega) (by rw [Array.size_setIfInBounds, dC8_size, hcs]; rfl)).mono fun e w' h => ⟨h.1, h.2.rot.rot.swap2.rot.rot⟩) ?_
        refine WL.nil_ ?_
        refine End.norm ?_
        refine End.ret0 rfl ?_
        exact fun w' hs' => ⟨b107, rfl, hs'⟩
    ·
      try simp only [decide_eq_true_eq, decide_eq_false_iff_not, beq_iff_eq, beq_eq_false_iff_ne, bne_iff_ne, bne_eq_false_iff_eq, Bool.not_eq_true', Bool.not_eq_false', ne_eq, Int.not_lt, Int.not_le] at hc104
      refine WC.skip ?_
      refine End.seq ?_
      refine WC.seq ?_
      refine WC.seq ?_
      refine WC.region ?_
      refine WL.p rfl rfl rfl (P.move rfl) ?_
      refine WL.p rfl rfl rfl (P.nilCheck rfl) ?_
      refine WL.p rfl rfl rfl (P.fieldAddr fa_34_3 rfl) ?_
      refine WL.p rfl rfl rfl (P.loadO 2 Tryz.isAgg22 rfl rfl h23') ?_
      refine WL.p rfl rfl rfl (P.lenR Tryz.underlying22 rfl) ?_
      refine WL.p rfl rfl rfl (P.move rfl) ?_
      refine WL.nil_ ?_
      refine End.seq ?_
      refine WC.block ?_
      refine WC.loopD (σ := Nat) (fun k => [(115, .int .i64 (k : Nat))]) (fun k => (rdB r (dY8 x).num.2 :: cB c out (some ⟨r, 0, none⟩) :: .blk q 34 (dC8 cs x) :: H)) (fun k => k = 0) (fun k => 0) 0 rfl (Env.sub_cons rfl (Env.sub_nil)) (List.range _) selOk_range (sel_range.trans rfl) ?_
      rintro k hk
      refine WC.seq ?_
      refine WC.region ?_
      refine WL.p rfl rfl rfl (P.cmp rfl rfl rfl) ?_
      refine WL.nil_ ?_
      refine End.seq ?_
      refine WC.seq ?_
      refine WC.cond rfl (fun hc116 => ?_) (fun hc116 => ?_)
      ·
        try simp only [decide_eq_true_eq, decide_eq_false_iff_not, beq_iff_eq, beq_eq_false_iff_ne, bne_iff_ne, bne_eq_false_iff_eq, Bool.not_eq_true', Bool.not_eq_false', ne_eq, Int.not_lt, Int.not_le] at hc116
        exact absurd hc116 (by omega)
      ·
        try simp only [decide_eq_true_eq, decide_eq_false_iff_not, beq_iff_eq, beq_eq_false_iff_ne, bne_iff_ne, bne_eq_false_iff_eq, Bool.not_eq_true', Bool.not_eq_false', ne_eq, Int.not_lt, Int.not_le] at hc116
        refine WC.exit ?_
        refine End.thenX ?_
        refine End.thenX ?_
        refine End.blkX ?_
        refine End.seq ?_
        refine WC.region ?_
        have em : dM x = 0 := by unfold dM; omega
        obtain ⟨b107, _⟩ : ∃ b : Nat, True := ⟨0, trivial⟩
        have e1 : dA x = ([], (dY8 x).num.2) := by rw [dA, em]; rfl
        have hza2 : (dA x).2.1.size < 4294967296 := by rw [e1]; show (dY8 x).num.2.1.size < _; omega
        refine WL.conv (H' := rdB r (dA x).2 :: cB c out (some ⟨r, 0, none⟩) :: aIt b107 (dA x).1 :: .blk q 34 ((dC8 cs x).setIfInBounds 23 (gVal b107 (dM x))) :: H) (fun w hs => by rw [e1, em, gVal, if_pos rfl, set_same h23']; exact hs.nil.rot3) ?_
        refine WL.p rfl rfl rfl (P.move rfl) ?_
        refine WL.p rfl rfl rfl (P.move rfl) ?_
        refine WL.p rfl rfl rfl (P.nilCheck rfl) ?_
        refine WL.p rfl rfl rfl (P.fieldAddr fa_34_4 rfl) ?_
        refine WL.callo (H' := _) (ent_of Tryz.func210 rfl rfl) rfl rfl rfl (fun w hs => (number_r r c q 34 24 (dA x).2 out _ w0 w _ hs.rot.rot.swap2.rot.rot (by omega) (by rw [Array.size_setIfInBounds, dC8_size, hcs]; rfl)).mono fun e w' h => ⟨h.1, h.2.rot.rot.swap2.rot.rot⟩) ?_
        refine WL.nil_ ?_
        refine End.norm ?_
        refine End.ret0 rfl ?_
        exact fun w' hs' => ⟨b107, rfl, hs'⟩
  ·
    try simp only [decide_eq_true_eq, decide_eq_false_iff_not, beq_iff_eq, beq_eq_false_iff_ne, bne_iff_ne, bne_eq_false_iff_eq, Bool.not_eq_true', Bool.not_eq_false', ne_eq, Int.not_lt, Int.not_le] at hs101
    cases hs101

end Go.Proofs.YtlkkiimmangplaaGreatDoor

/- A profile's fields in their ranges. -/
namespace Go.Proofs.YtlkkiimmangplaaGreatDoor
open Go.RowKit
set_option linter.unusedVariables false
set_option linter.unusedSimpArgs false

def grKey (g : Gr) : ByteArray × Bool := (g.who, g.group)
/-- The grants are right: one word each, a level in its range, none twice. -/
def grsOK (gs : List Gr) : List (ByteArray × Bool) → Bool
  | seen => match gs with
    | [] => true
    | g :: r => wordB g.who && (inB 0 3 [g.level] && (!inL seen (grKey g) && grsOK r (seen ++ [grKey g])))
theorem grsOK_take {gs : List Gr} {k : Nat} {g : Gr} (h : gs[k]? = some g) (seen : List (ByteArray × Bool)) : grsOK (gs.take (k + 1)) seen = (grsOK (gs.take k) seen && (wordB g.who && (inB 0 3 [g.level] && !inL (seen ++ (gs.take k).map grKey) (grKey g)))) := by
  induction gs generalizing seen k with
  | nil => cases h
  | cons x r ih =>
    cases k with
    | zero => simp at h; subst h; simp [grsOK]
    | succ k =>
      rw [List.take_succ_cons, List.take_succ_cons, grsOK, grsOK, ih (by simpa using h)]
      simp [Bool.and_assoc]
theorem grsOK_false {gs : List Gr} {k : Nat} {seen : List (ByteArray × Bool)} (h : grsOK (gs.take k) seen = false) : grsOK gs seen = false := by
  induction gs generalizing seen k with
  | nil => simp at h; exact h
  | cons x r ih =>
    cases k with
    | zero => simp [grsOK] at h
    | succ k =>
      rw [List.take_succ_cons, grsOK] at h
      rw [grsOK]
      cases h1 : wordB x.who with
      | false => rfl
      | true =>
        cases h2 : inB 0 3 [x.level] with
        | false => rfl
        | true =>
          cases h3 : (!inL seen (grKey x)) with
          | false => rfl
          | true =>
            rw [h1, h2, h3] at h
            simp only [Bool.true_and] at h ⊢
            exact ih h
def profOK (e : E) : Bool := grsOK e.grants [] && (inB 0 3 [e.level] && ((decide (e.owner = bempty) || wordB e.owner) && decide ((e.grants.length : Int) ≤ 8)))
theorem profOK_no {e : E} {k : Nat} (h : grsOK (e.grants.take k) [] = false) : profOK e = false := by rw [profOK, grsOK_false h]; rfl

set_option maxRecDepth 100000 in
theorem profOK_any (e : E) (va vg : Value) (w : World) (hg : Good w) (ha : EntAt w e va vg) :
    Calls Tryz.prog 213 #[.agg (e.cells va vg)] w (RetV w (.bool (profOK e))) := by
  obtain ⟨⟨A1, c1, rfl, hc1, hr1⟩, ⟨A2, c2, rfl, hc2, hr2⟩⟩ := ha
  refine enter Tryz.func213 rfl Tryz.ntmps213 rfl ?_
  refine WC.seq ?_
  refine WC.region ?_
  refine WL.box rfl rfl rfl (fun b1 => ?_)
  refine WL.p rfl rfl rfl (P.assign rfl) ?_
  refine WL.nil_ ?_
  refine End.seq ?_
  refine WC.seq ?_
  refine WC.region ?_
  refine WL.makeMap rfl rfl (fun b7 => ?_)
  refine WL.p rfl rfl rfl (P.assign rfl) ?_
  refine WL.nil_ ?_
  refine End.seq ?_
  refine WC.seq ?_
  refine WC.seq ?_
  refine WC.region ?_
  refine WL.p rfl rfl rfl (P.fieldAddr fa_34_12 rfl) ?_
  refine WL.p rfl rfl rfl (P.loadO 1 Tryz.isAgg32 rfl rfl rfl) ?_
  refine WL.p rfl rfl rfl (P.lenR Tryz.underlying32 rfl) ?_
  refine WL.p rfl rfl rfl (P.move rfl) ?_
  refine WL.nil_ ?_
  refine End.seq ?_
  refine WC.block ?_
  refine WC.loopD (σ := Nat × Array MapEntry × Nat) (fun (k, es, c) => [(11, .int .i64 (k : Nat))]) (fun (k, es, c) => [.map b7 es c, .blk b1 34 (e.cells (.slice A1 e.alt.length c1) (.slice A2 e.grants.length c2))]) (fun (k, es, c) => k ≤ e.grants.length ∧ grsOK (e.grants.take k) [] = true ∧ KeySet wkey es ((e.grants.take k).map grKey)) (fun (k, es, c) => e.grants.length - k) (0, #[], 0) ⟨Nat.zero_le _, rfl, KeySet.nil _⟩ (Env.sub_cons rfl (Env.sub_nil)) [0, 1] rfl rfl ?_
  rintro ⟨k, es, c⟩ ⟨hk, hok, hset⟩
  refine WC.seq ?_
  refine WC.region ?_
  refine WL.p rfl rfl rfl (P.cmp rfl rfl rfl) ?_
  refine WL.nil_ ?_
  refine End.seq ?_
  refine WC.seq ?_
  refine WC.cond rfl (fun hc12 => ?_) (fun hc12 => ?_)
  ·
    have hkl : k < e.grants.length := by have := of_decide_eq_true hc12; omega
    have hl2 := hr2.1
    obtain ⟨b, off, rfl, hcx⟩ := hr2.at_ (by have := of_decide_eq_true hc12; omega)
    obtain ⟨g, hx⟩ := get_of_lt (xs := e.grants) (k := k) (by have := of_decide_eq_true hc12; omega)
    refine WC.skip ?_
    refine End.seq ?_
    refine WC.seq ?_
    refine WC.block ?_
    refine WC.seq ?_
    refine WC.region ?_
    refine WL.p rfl rfl rfl (P.elemAddr Tryz.underlying32 Tryz.sizeOf51 rfl rfl (by omega) (by omega)) ?_
    refine WL.p rfl rfl rfl (P.loadBA (vs := g.cells.toArray) Tryz.isAgg51 Tryz.sizeOf51 rfl rfl (fun j v h => hcx k g hx j v (by simpa using h))) ?_
    refine WL.alloc Tryz.zeroValue51 rfl rfl (fun b5 => ?_)
    refine WL.storeW 0 Tryz.sizeOf51 rfl rfl rfl rfl rfl rfl rfl ?_
    refine WL.nil_ ?_
    refine End.seq ?_
    refine WC.seq ?_
    refine WC.region ?_
    refine WL.p rfl rfl rfl (P.fieldAddr fa_51_0 rfl) ?_
    refine WL.p rfl rfl rfl (P.loadO 0 Tryz.isAgg9 rfl rfl rfl) ?_
    refine WL.p rfl rfl rfl (P.fieldAddr fa_51_1 rfl) ?_
    refine WL.p rfl rfl rfl (P.loadO 0 Tryz.isAgg4 rfl rfl rfl) ?_
    refine WL.p rfl rfl rfl (P.build rfl (fun w => bo_281 Tryz.zeroValue281 (cs := #[_, _]) rfl rfl w)) ?_
    refine WL.alloc Tryz.zeroValue281 rfl rfl (fun b6 => ?_)
    refine WL.storeW 0 Tryz.sizeOf281 rfl rfl rfl rfl rfl rfl rfl ?_
    refine WL.nil_ ?_
    refine End.seq ?_
    refine WC.seq ?_
    refine WC.seq ?_
    refine WC.region ?_
    refine WL.p rfl rfl rfl (P.fieldAddr fa_51_0 rfl) ?_
    refine WL.p rfl rfl rfl (P.loadO 1 Tryz.isAgg9 rfl rfl rfl) ?_
    refine WL.callv (ent_of Tryz.func202 rfl rfl) rfl rfl rfl (fun w hs => word_any _ w (hg.st hs)) ?_
    refine WL.p rfl rfl rfl (P.not_ rfl) ?_
    refine WL.p rfl rfl rfl (P.move rfl) ?_
    refine WL.split 24 rfl (fun hs24 => ?_) (fun hs24 => ?_)
    ·
      refine WL.off rfl rfl ?_
      refine WL.off rfl rfl ?_
      refine WL.off rfl rfl ?_
      refine WL.off rfl rfl ?_
      refine WL.off rfl rfl ?_
      refine WL.p rfl rfl rfl (P.pickT rfl rfl) ?_
      refine WL.p rfl rfl rfl (P.move rfl) ?_
      refine WL.off rfl rfl ?_
      refine WL.off rfl rfl ?_
      refine WL.off rfl rfl ?_
      refine WL.p rfl rfl rfl (P.pickT rfl rfl) ?_
      refine WL.nil_ ?_
      refine End.seq ?_
      refine WC.condT rfl ?_
      refine WC.seq ?_
      refine WC.region ?_
      refine WL.p rfl rfl rfl (P.assign rfl) ?_
      refine WL.nil_ ?_
      refine End.seq ?_
      refine WC.ret ?_
      refine End.thenR ?_
      refine End.blkR ?_
      refine End.thenR ?_
      refine End.thenR ?_
      refine End.blkR ?_
      refine End.thenR ?_
      refine End.ret1 rfl rfl ?_
      exact fun w' hs' => RetV.of (by rw [profOK_no (k := k + 1) (by rw [grsOK_take hx, hok]; simp at hs24; simp [hs24])]) hs'
    ·
      refine WL.p rfl rfl rfl (P.fieldAddr fa_51_2 rfl) ?_
      refine WL.p rfl rfl rfl (P.loadO 1 Tryz.isAgg3 rfl rfl rfl) ?_
      refine WL.row Tryz.underlying22 Tryz.sizeOf3 Tryz.zeroValue3 rfl rfl rfl rfl rfl rfl rfl rfl rfl (fun b27 => ?_)
      refine WL.callv (ent_of Tryz.func201 rfl rfl) rfl rfl rfl (fun w hs => within_any 0 3 _ _ [g.level] w (slI_row hs (j := 0) rfl rfl (by simp))) ?_
      refine WL.p rfl rfl rfl (P.not_ rfl) ?_
      refine WL.p rfl rfl rfl (P.pickF rfl rfl) ?_
      refine WL.p rfl rfl rfl (P.move rfl) ?_
      refine WL.split 31 rfl (fun hs31 => ?_) (fun hs31 => ?_)
      ·
        refine WL.off rfl rfl ?_
        refine WL.off rfl rfl ?_
        refine WL.off rfl rfl ?_
        refine WL.p rfl rfl rfl (P.pickT rfl rfl) ?_
        refine WL.nil_ ?_
        refine End.seq ?_
        refine WC.condT rfl ?_
        refine WC.seq ?_
        refine WC.region ?_
        refine WL.p rfl rfl rfl (P.assign rfl) ?_
        refine WL.nil_ ?_
        refine End.seq ?_
        refine WC.ret ?_
        refine End.thenR ?_
        refine End.blkR ?_
        refine End.thenR ?_
        refine End.thenR ?_
        refine End.blkR ?_
        refine End.thenR ?_
        refine End.ret1 rfl rfl ?_
        exact fun w' hs' => RetV.of (by rw [profOK_no (k := k + 1) (by rw [grsOK_take hx, hok]; simp at hs24 hs31; simp [hs24, hs31])]) hs'
      ·
        refine WL.p rfl rfl rfl (P.move rfl) ?_
        refine WL.p rfl rfl rfl (P.loadW 1 Tryz.isAgg281 Tryz.sizeOf281 rfl rfl rfl) ?_
        refine WL.p rfl rfl rfl (P.hasKey 3 (grKey g) key281 Tryz.underlying279 Tryz.zeroValue4 rfl rfl rfl hset) ?_
        refine WL.p rfl rfl rfl (P.pickF rfl rfl) ?_
        refine WL.nil_ ?_
        refine End.seq ?_
        refine WC.cond rfl (fun hc35 => ?_) (fun hc35 => ?_)
        ·
          refine WC.seq ?_
          refine WC.region ?_
          refine WL.p rfl rfl rfl (P.assign rfl) ?_
          refine WL.nil_ ?_
          refine End.seq ?_
          refine WC.ret ?_
          refine End.thenR ?_
          refine End.blkR ?_
          refine End.thenR ?_
          refine End.thenR ?_
          refine End.blkR ?_
          refine End.thenR ?_
          refine End.ret1 rfl rfl ?_
          exact fun w' hs' => RetV.of (by rw [profOK_no (k := k + 1) (by rw [grsOK_take hx, hok, List.nil_append, hc35]; simp at hs24 hs31; simp [hs24, hs31])]) hs'
        ·
          refine WC.skip ?_
          refine End.seq ?_
          refine WC.region ?_
          refine WL.p rfl rfl rfl (P.move rfl) ?_
          refine WL.p rfl rfl rfl (P.loadW 1 Tryz.isAgg281 Tryz.sizeOf281 rfl rfl rfl) ?_
          refine WL.putKey 3 (grKey g) key281 Tryz.underlying279 rfl rfl rfl rfl rfl hset (fun es' c' hset' => ?_)
          refine WL.nil_ ?_
          refine End.blkN ?_
          refine End.seq ?_
          refine WC.region ?_
          refine WL.p rfl rfl rfl (P.ari64 rfl rfl rfl (by omega)) ?_
          refine WL.p rfl rfl rfl (P.move rfl) ?_
          refine WL.nil_ ?_
          refine End.againD (k + 1, es', c') ?_ ?_ rfl (Env.sub_cons rfl (Env.sub_nil)) rfl [3, 4] rfl rfl
          · exact ⟨by omega, by rw [grsOK_take hx, hok, List.nil_append, hc35]; simp at hs24 hs31; simp [hs24, hs31], by rw [take_snoc hx, List.map_append]; exact hset'⟩
          · show e.grants.length - (k + 1) < e.grants.length - k; omega
  ·
    have hokF : grsOK e.grants [] = true := by rw [List.take_of_length_le (by have := of_decide_eq_false hc12; omega)] at hok; exact hok
    refine WC.exit ?_
    refine End.thenX ?_
    refine End.thenX ?_
    refine End.blkX ?_
    refine End.seq ?_
    refine WC.seq ?_
    refine WC.region ?_
    refine WL.p rfl rfl rfl (P.fieldAddr fa_34_11 rfl) ?_
    refine WL.p rfl rfl rfl (P.loadO 1 Tryz.isAgg3 rfl rfl rfl) ?_
    refine WL.row Tryz.underlying22 Tryz.sizeOf3 Tryz.zeroValue3 rfl rfl rfl rfl rfl rfl rfl rfl rfl (fun b41 => ?_)
    refine WL.callv (ent_of Tryz.func201 rfl rfl) rfl rfl rfl (fun w hs => within_any 0 3 _ _ [e.level] w (slI_row hs (j := 0) rfl rfl (by simp))) ?_
    refine WL.p rfl rfl rfl (P.move rfl) ?_
    refine WL.split 43 rfl (fun hs43 => ?_) (fun hs43 => ?_)
    ·
      refine WL.p rfl rfl rfl (P.fieldAddr fa_34_8 rfl) ?_
      refine WL.p rfl rfl rfl (P.loadO 2 Tryz.isAgg9 rfl rfl rfl) ?_
      refine WL.p rfl rfl rfl (P.cmps rfl rfl rfl) ?_
      refine WL.p rfl rfl rfl (P.move rfl) ?_
      refine WL.split 47 rfl (fun hs47 => ?_) (fun hs47 => ?_)
      ·
        refine WL.off rfl rfl ?_
        refine WL.off rfl rfl ?_
        refine WL.off rfl rfl ?_
        refine WL.p rfl rfl rfl (P.pickT rfl rfl) ?_
        refine WL.p rfl rfl rfl (P.pickT rfl rfl) ?_
        refine WL.p rfl rfl rfl (P.move rfl) ?_
        refine WL.p rfl rfl rfl (P.fieldAddr fa_34_12 rfl) ?_
        refine WL.p rfl rfl rfl (P.loadO 2 Tryz.isAgg32 rfl rfl rfl) ?_
        refine WL.p rfl rfl rfl (P.lenR Tryz.underlying32 rfl) ?_
        refine WL.p rfl rfl rfl (P.cmp rfl rfl rfl) ?_
        refine WL.p rfl rfl rfl (P.pickT rfl rfl) ?_
        refine WL.p rfl rfl rfl (P.assign rfl) ?_
        refine WL.nil_ ?_
        refine End.seq ?_
        refine WC.ret ?_
        refine End.ret1 rfl rfl ?_
        exact fun w' hs' => RetV.of (by rw [profOK, hokF, hs43, owner_eq hs47]; rfl) hs'
      ·
        refine WL.p rfl rfl rfl (P.fieldAddr fa_34_8 rfl) ?_
        refine WL.p rfl rfl rfl (P.loadO 2 Tryz.isAgg9 rfl rfl rfl) ?_
        refine WL.callv (ent_of Tryz.func202 rfl rfl) rfl rfl rfl (fun w hs => word_any _ w (hg.st hs)) ?_
        refine WL.p rfl rfl rfl (P.pickF rfl rfl) ?_
        refine WL.p rfl rfl rfl (P.pickT rfl rfl) ?_
        refine WL.p rfl rfl rfl (P.move rfl) ?_
        refine WL.split 53 rfl (fun hs53 => ?_) (fun hs53 => ?_)
        ·
          refine WL.p rfl rfl rfl (P.fieldAddr fa_34_12 rfl) ?_
          refine WL.p rfl rfl rfl (P.loadO 2 Tryz.isAgg32 rfl rfl rfl) ?_
          refine WL.p rfl rfl rfl (P.lenR Tryz.underlying32 rfl) ?_
          refine WL.p rfl rfl rfl (P.cmp rfl rfl rfl) ?_
          refine WL.p rfl rfl rfl (P.pickT rfl rfl) ?_
          refine WL.p rfl rfl rfl (P.assign rfl) ?_
          refine WL.nil_ ?_
          refine End.seq ?_
          refine WC.ret ?_
          refine End.ret1 rfl rfl ?_
          exact fun w' hs' => RetV.of (by rw [profOK, hokF, hs43, owner_ne hs47, hs53]; rfl) hs'
        ·
          refine WL.off rfl rfl ?_
          refine WL.off rfl rfl ?_
          refine WL.off rfl rfl ?_
          refine WL.off rfl rfl ?_
          refine WL.p rfl rfl rfl (P.pickF rfl rfl) ?_
          refine WL.p rfl rfl rfl (P.assign rfl) ?_
          refine WL.nil_ ?_
          refine End.seq ?_
          refine WC.ret ?_
          refine End.ret1 rfl rfl ?_
          exact fun w' hs' => RetV.of (by rw [profOK, hokF, hs43, owner_ne hs47, hs53]; rfl) hs'
    ·
      refine WL.off rfl rfl ?_
      refine WL.off rfl rfl ?_
      refine WL.off rfl rfl ?_
      refine WL.off rfl rfl ?_
      refine WL.offU rfl rfl ?_
      refine WL.offU rfl rfl ?_
      refine WL.offU rfl rfl ?_
      refine WL.off rfl rfl ?_
      refine WL.p rfl rfl rfl (P.pickF rfl rfl) ?_
      refine WL.p rfl rfl rfl (P.move rfl) ?_
      refine WL.off rfl rfl ?_
      refine WL.off rfl rfl ?_
      refine WL.off rfl rfl ?_
      refine WL.off rfl rfl ?_
      refine WL.p rfl rfl rfl (P.pickF rfl rfl) ?_
      refine WL.p rfl rfl rfl (P.assign rfl) ?_
      refine WL.nil_ ?_
      refine End.seq ?_
      refine WC.ret ?_
      refine End.ret1 rfl rfl ?_
      exact fun w' hs' => RetV.of (by rw [profOK, hokF, hs43]; rfl) hs'

end Go.Proofs.YtlkkiimmangplaaGreatDoor

/- The entries of any kind. -/
namespace Go.Proofs.YtlkkiimmangplaaGreatDoor
open Go.RowKit
set_option linter.unusedVariables false
set_option linter.unusedSimpArgs false

/-- A kind of entries: its letter, its functions, and what they do. -/
structure KF where
  kind : Int
  L : Int
  N : Nat
  g : Nat
  V : Nat
  nm : ByteArray → Bool
  ok : E → Bool
  out : ByteArray → E → ByteArray
  rd : E → Rd → E × Rd
  it : Nat → E → It
  va : Nat → E → Value
  vg : Nat → E → Value
abbrev KF.form (F : KF) : Array Value := #[.int .u8 F.L, .func (.func F.N) #[] #[], .func (.func F.g) #[] #[], .func (.func F.V) #[] #[]]
structure KF.Law (F : KF) : Prop where
  entN : Ent F.N
  entg : Ent F.g
  entV : Ent F.V
  form : ∃ i, Instr.findNow (.int .i64) (.int .i64 F.kind) formsEs.toList 0 = some (some (i, .agg F.form))
  name : ∀ (s : ByteArray) (w : World), Good w → s.size < 4294967281 → Calls Tryz.prog F.N #[.string s] w (RetV w (.bool (F.nm s)))
  okL : ∀ (e : E) (va vg : Value) (w : World), Good w → EntAt w e va vg → Calls Tryz.prog F.V #[.agg (e.cells va vg)] w (RetV w (.bool (F.ok e)))
  size : ∀ (e : E) (out : ByteArray), F.ok e = true → (F.out out e).size < out.size + 100000
  write : ∀ (e : E) (va vg : Value) (w0 : World), F.ok e = true → EntAt w0 e va vg → ∀ (c q : Nat) (out : ByteArray) (H : List It) (w : World), out.size < 1000 → St w0 (cB c out none :: .blk q 34 (e.cells va vg) :: H) w →
    Calls Tryz.prog F.g #[.pointer (some ⟨c, 0, none⟩), .pointer (some ⟨q, 0, none⟩)] w (Mo w0 (.tuple #[]) (cB c (F.out out e) none :: .blk q 34 (e.cells va vg) :: H))
  read : ∀ (e : E) (x : Rd), e.alt = [] → e.grants = [] → x.1.size < 4294967296 → ∀ (r c q : Nat) (out : ByteArray) (w0 : World) (H : List It) (w : World), St w0 (rdB r x :: cB c out (some ⟨r, 0, none⟩) :: .blk q 34 (e.cells vnil vnil) :: H) w →
    Calls Tryz.prog F.g #[.pointer (some ⟨c, 0, none⟩), .pointer (some ⟨q, 0, none⟩)] w (fun en w' => ∃ s : Nat, en = .returned (.tuple #[]) ∧ St w0 (rdB r (F.rd e x).2 :: cB c out (some ⟨r, 0, none⟩) :: F.it s (F.rd e x).1 :: .blk q 34 ((F.rd e x).1.cells (F.va s (F.rd e x).1) (F.vg s (F.rd e x).1)) :: H) w')
  at_ : ∀ (s j : Nat) (e e0 : E) (x : Rd) (H : List It) (w0 w : World), e = (F.rd e0 x).1 → e0.alt = [] → e0.grants = [] → St w0 H w → H[j]? = some (F.it s e) → EntAt w e (F.va s e) (F.vg s e)
  keep : ∀ (e : E) (x : Rd), (F.rd e x).1.kind = e.kind ∧ (F.rd e x).1.name = e.name
  letter : 0 ≤ F.L ∧ F.L < 256
  one : ∀ (s : Nat) (e : E), (F.va s e).oneCell' = true ∧ (F.vg s e).oneCell' = true
/-- An entry that has its kind and name alone. -/
def E.bare0 (e : E) : E := { E.zero with kind := e.kind, name := e.name }

set_option maxRecDepth 100000 in
theorem body_any (F : KF) (hF : F.Law) (e : E) (va vg : Value) (w : World) (hok : F.ok e = true) (ha : EntAt w e va vg) :
    Calls Tryz.prog 140 #[.agg F.form, .agg (e.cells va vg)] w (RetV w (.string (F.out bempty e))) := by
  refine enter Tryz.func140 rfl Tryz.ntmps140 rfl ?_
  refine WC.seq ?_
  refine WC.region ?_
  refine WL.box rfl rfl rfl (fun b2 => ?_)
  refine WL.box rfl rfl rfl (fun b3 => ?_)
  refine WL.p rfl rfl rfl (P.assign rfl) ?_
  refine WL.nil_ ?_
  refine End.seq ?_
  refine WC.seq ?_
  refine WC.region ?_
  refine WL.p rfl rfl rfl (P.build rfl (fun w => bo_155 Tryz.zeroValue155 (cs := #[_, _]) rfl rfl w)) ?_
  refine WL.box rfl rfl rfl (fun b7 => ?_)
  refine WL.p rfl rfl rfl (P.assign rfl) ?_
  refine WL.nil_ ?_
  refine End.seq ?_
  refine WC.seq ?_
  refine WC.region ?_
  refine WL.p rfl rfl rfl (P.fieldAddr fa_128_2 rfl) ?_
  refine WL.p rfl rfl rfl (P.loadO 2 Tryz.isAgg126 rfl rfl rfl) ?_
  refine WL.p rfl rfl rfl (P.move rfl) ?_
  refine WL.callco (H' := _) hF.entg rfl rfl rfl rfl (fun w hs => by rw [Array.append_empty]; exact hF.write e va vg _ hok ha b7 b3 bempty _ w (by decide) hs) ?_
  refine WL.nil_ ?_
  refine End.seq ?_
  refine WC.seq ?_
  refine WC.region ?_
  refine WL.p rfl rfl rfl (P.move rfl) ?_
  refine WL.p rfl rfl rfl (P.nilCheck rfl) ?_
  refine WL.p rfl rfl rfl (P.fieldAddr fa_155_0 rfl) ?_
  refine WL.p rfl rfl rfl (P.loadO 0 Tryz.isAgg9 rfl rfl rfl) ?_
  refine WL.p rfl rfl rfl (P.assign rfl) ?_
  refine WL.nil_ ?_
  refine End.seq ?_
  refine WC.ret ?_
  refine End.ret1 rfl rfl ?_
  exact fun w' hs' => RetV.of rfl hs'

abbrev KF.re (F : KF) (e : E) : E × Rd := F.rd e.bare0 (F.out bempty e, 0)

set_option maxRecDepth 100000 in
theorem bare_any (F : KF) (hF : F.Law) (e : E) (A A' : Option Addr) (m c m' c' : Nat) (w : World) (hok : F.ok e = true) (ha : EntAt w e (.slice A m c) (.slice A' m' c')) :
    Calls Tryz.prog 115 #[.agg F.form, .agg (e.cells (.slice A m c) (.slice A' m' c'))] w (Ret w (fun _ : Nat => True) (fun s => .tuple #[.agg ((F.re e).1.cells (F.va s (F.re e).1) (F.vg s (F.re e).1)), .bool (decide ((F.re e).2.end_ = 0))]) (fun s => [F.it s (F.re e).1])) := by
  refine enter Tryz.func115 rfl Tryz.ntmps115 rfl ?_
  refine WC.seq ?_
  refine WC.region ?_
  refine WL.box rfl rfl rfl (fun b2 => ?_)
  refine WL.box rfl rfl rfl (fun b3 => ?_)
  refine WL.alloc Tryz.zeroValue34 rfl rfl (fun b4 => ?_)
  refine WL.p rfl rfl rfl (P.assign rfl) ?_
  refine WL.nil_ ?_
  refine End.seq ?_
  refine WC.seq ?_
  refine WC.region ?_
  refine WL.p rfl rfl rfl (P.fieldAddr fa_34_0 rfl) ?_
  refine WL.p rfl rfl rfl (P.loadO 1 Tryz.isAgg3 rfl rfl rfl) ?_
  refine WL.p rfl rfl rfl (P.fieldAddr fa_34_1 rfl) ?_
  refine WL.p rfl rfl rfl (P.loadO 1 Tryz.isAgg9 rfl rfl rfl) ?_
  refine WL.p rfl rfl rfl (P.build rfl (fun w => bo_34 Tryz.zeroValue34 (cs := #[_, _, _, _, _, _, _, _, _, _, _, _, _, _, _, _, _, _, _, _, _, _, _, _, _, _, _, _, _, _, _, _, _]) rfl rfl w)) ?_
  refine WL.alloc Tryz.zeroValue34 rfl rfl (fun b6 => ?_)
  refine WL.storeW 0 Tryz.sizeOf34 rfl rfl rfl rfl rfl rfl rfl ?_
  refine WL.nil_ ?_
  refine End.seq ?_
  refine WC.seq ?_
  refine WC.region ?_
  refine WL.p rfl rfl rfl (P.loadW 3 Tryz.isAgg128 Tryz.sizeOf128 rfl rfl rfl) ?_
  refine WL.p rfl rfl rfl (P.loadW 2 Tryz.isAgg34 Tryz.sizeOf34 rfl rfl rfl) ?_
  refine WL.callv (ent_of Tryz.func140 rfl rfl) rfl rfl rfl (fun w hs => body_any F hF e _ _ w hok (ha.st hs)) ?_
  refine WL.callx (ent_of Tryz.func143 rfl rfl) rfl rfl rfl (fun w hs => newReader_any (F.out bempty e) w) (fun r _ => ?_)
  refine WL.p rfl rfl rfl (P.build rfl (fun w => bo_155 Tryz.zeroValue155 (cs := #[_, _]) rfl rfl w)) ?_
  refine WL.box rfl rfl rfl (fun b18 => ?_)
  refine WL.p rfl rfl rfl (P.assign rfl) ?_
  refine WL.nil_ ?_
  refine End.seq ?_
  refine WC.seq ?_
  refine WC.region ?_
  refine WL.p rfl rfl rfl (P.fieldAddr fa_128_2 rfl) ?_
  refine WL.p rfl rfl rfl (P.loadO 5 Tryz.isAgg126 rfl rfl rfl) ?_
  refine WL.p rfl rfl rfl (P.move rfl) ?_
  refine WL.callG (α := Nat) (S := fun _ => True) (v := fun _ => .tuple #[]) (H' := fun s => (rdB r (F.re e).2 :: cB b18 bempty (some ⟨r, 0, none⟩) :: F.it s (F.re e).1 :: .blk b6 34 ((F.re e).1.cells (F.va s (F.re e).1) (F.vg s (F.re e).1)) :: _)) hF.entg rfl rfl rfl rfl rfl rfl (fun w hs => by rw [Array.append_empty]; exact (hF.read e.bare0 (F.out bempty e, 0) rfl rfl (by have := hF.size e bempty hok; have : bempty.size = 0 := rfl; show (F.out bempty e).size < _; omega) r b18 b6 bempty _ _ w hs.swap2).mono (fun en w' h => by obtain ⟨s, h1, h2⟩ := h; exact ⟨s, trivial, h1, h2⟩)) (fun s3 _ => ?_)
  refine WL.nil_ ?_
  refine End.seq ?_
  refine WC.seq ?_
  apply WC.draws (al := []) (vs := [_, _, _, _, _, _, _, fun _ => undef, _]) (Hs := fun v HH b s => (bwh (b 7) (cellsOf (v 0 s)) HH 4)) (by kernel_rfl) (by kernel_rfl) (by kernel_rfl)
  case steps =>
    refine Stps.cons (Stp.p (fun b s hd => ⟨_, ⟨rfl, P.loadW 3 Tryz.isAgg34 Tryz.sizeOf34 rfl rfl rfl⟩, rfl, rfl⟩)) ?_
    refine Stps.cons (Stp.p (fun b s hd => ⟨_, ⟨rfl, P.move rfl⟩, rfl, rfl⟩)) ?_
    refine Stps.cons (Stp.p (fun b s hd => ⟨_, ⟨rfl, P.nilCheck rfl⟩, rfl, rfl⟩)) ?_
    refine Stps.cons (Stp.p (fun b s hd => ⟨_, ⟨rfl, P.fieldAddr fa_155_1 rfl⟩, rfl, rfl⟩)) ?_
    refine Stps.cons (Stp.p (fun b s hd => ⟨_, ⟨rfl, P.loadO 1 Tryz.isAgg152 rfl rfl rfl⟩, rfl, rfl⟩)) ?_
    refine Stps.cons (Stp.callv (ent_of Tryz.func144 rfl rfl) (fun b s hd => ⟨_, _, rfl, rfl, fun w hs => end_st hs (j := 0) rfl, rfl, rfl⟩)) ?_
    refine Stps.cons (Stp.p (fun b s hd => ⟨_, ⟨rfl, P.cmp rfl rfl rfl⟩, rfl, rfl⟩)) ?_
    refine Stps.cons (Stp.storeW 4 Tryz.sizeOf34 (fun b s hd => ⟨true, _, _, _, _, _, rfl, rfl, rfl, (E.one _ (hF.one _ _).1 (hF.one _ _).2), rfl, rfl, rfl, rfl, rfl, rfl⟩)) ?_
    refine Stps.cons (Stp.p (fun b s hd => ⟨_, ⟨rfl, P.assign rfl⟩, rfl, rfl⟩)) ?_
    exact Stps.nil
  case h0 => exact fun s => rfl
  case agree => exact AgrAll.nil
  intro s4
  refine End.shape (ρ' := [(0, _), (1, _), (2, _), (3, _), (4, _), (5, _), (6, _), (7, _), (8, _), (9, _), (10, _), (11, _), (12, _), (13, _), (14, _), (15, _), (16, _), (17, _), (18, _), (19, _), (20, _), (21, _), (22, _), (23, _), (24, _), (25, _), (26, _), (27, _), (28, _), (29, _)]) (H' := [_, _, _, _, .blk _ _ #[_, _, _, _, _, _, _, _, _, _, _, _, _, _, _, _, _, _, _, _, _, _, _, _, _, _, _, _, _, _, _, _, _], _, _]) (Env.sub_cons rfl (Env.sub_cons rfl (Env.sub_cons rfl (Env.sub_cons rfl (Env.sub_cons rfl (Env.sub_cons rfl (Env.sub_cons rfl (Env.sub_cons rfl (Env.sub_cons rfl (Env.sub_cons rfl (Env.sub_cons rfl (Env.sub_cons rfl (Env.sub_cons rfl (Env.sub_cons rfl (Env.sub_cons rfl (Env.sub_cons rfl (Env.sub_cons rfl (Env.sub_cons rfl (Env.sub_cons rfl (Env.sub_cons rfl (Env.sub_cons rfl (Env.sub_cons rfl (Env.sub_cons rfl (Env.sub_cons rfl (Env.sub_cons rfl (Env.sub_cons rfl (Env.sub_cons rfl (Env.sub_cons rfl (Env.sub_cons rfl (Env.sub_cons rfl (Env.sub_nil))))))))))))))))))))))))))))))) rfl ?_
  refine End.seq ?_
  refine WC.ret ?_
  refine End.retCT 4 rfl Tryz.isAgg34 Tryz.sizeOf34 rfl rfl rfl rfl ?_
  exact fun w' hs' => ⟨s3, trivial, rfl, hs'.sel [2] rfl⟩

/-- An entry of this kind is valid. -/
def KF.valid (F : KF) (e : E) : Bool := F.nm e.name && (F.ok e && (decide ((F.re e).2.end_ = 0) && decide ((F.re e).1 = e)))

set_option maxRecDepth 100000 in
theorem valid_any (F : KF) (hF : F.Law) (e : E) (va vg : Value) (w : World) (hg : Good w) (hk : e.kind = F.kind) (ha : EntAt w e va vg) (hsz : e.name.size < 4294967281) :
    Calls Tryz.prog 47 #[.agg (e.cells va vg)] w (RetV w (.bool (F.valid e))) := by
  have ha0 := ha
  obtain ⟨fi, hfi⟩ := hF.form
  obtain ⟨⟨A1, c1, rfl, hc1, hr1⟩, ⟨A2, c2, rfl, hc2, hr2⟩⟩ := ha
  refine enter Tryz.func47 rfl Tryz.ntmps47 rfl ?_
  refine WC.seq ?_
  refine WC.region ?_
  refine WL.box rfl rfl rfl (fun b1 => ?_)
  refine WL.p rfl rfl rfl (P.assign rfl) ?_
  refine WL.nil_ ?_
  refine End.seq ?_
  refine WC.seq ?_
  refine WC.nil1 ?_
  refine WC.nil1 ?_
  apply WC.draws (al := [0, 7]) (vs := [fun s => .map (some (s 0).1), _, _, fun _ => .tuple #[.agg F.form, .bool true], _, fun _ => .agg F.form, _, fun s => .pointer (some ⟨(s 7).1, 0, none⟩), fun _ => undef, _]) (Hs := fun v HH b s => (bnew (b 7) (It.blk (s 7).1 128 (bif b 8 then cellsOf (v 5 s) else #[.int .u8 0, .nilFunc, .nilFunc, .nilFunc])) (bnew (b 0) (It.map (s 0).1 formsEs 5) HH 0) 1)) (by kernel_rfl) (by kernel_rfl) (by kernel_rfl)
  case steps =>
    refine Stps.cons (Stp.callx 0 (ent_of Tryz.func114 rfl rfl) rfl (fun b s hb hd => ⟨_, _, _, _, rfl, rfl, fun w hs => forms_any w, fun q => rfl, ⟨_, rfl⟩, fun q => rfl⟩)) ?_
    refine Stps.cons (Stp.p (fun b s hd => ⟨_, ⟨rfl, P.fieldAddr fa_34_0 rfl⟩, rfl, rfl⟩)) ?_
    refine Stps.cons (Stp.p (fun b s hd => ⟨_, ⟨rfl, P.loadO 2 Tryz.isAgg3 rfl rfl rfl⟩, rfl, rfl⟩)) ?_
    refine Stps.cons (Stp.on [0] (by kernel_rfl) (Stp.p (fun b s hd => ⟨_, ⟨rfl, P.lookup2 0 (key := .int .i64 e.kind) (v := .agg F.form) (i := fi) Tryz.underlying130 Tryz.underlying3 (by simp [MapKept.IsKey]) rfl rfl rfl (by rw [hk]; exact hfi)⟩, rfl, rfl⟩))) ?_
    refine Stps.cons (Stp.p (fun b s hd => ⟨_, ⟨rfl, P.move rfl⟩, rfl, rfl⟩)) ?_
    refine Stps.cons (Stp.p (fun b s hd => ⟨_, ⟨rfl, P.extract rfl rfl⟩, rfl, rfl⟩)) ?_
    refine Stps.cons (Stp.p (fun b s hd => ⟨_, ⟨rfl, P.extract rfl rfl⟩, rfl, rfl⟩)) ?_
    refine Stps.cons (Stp.off [8] (by kernel_rfl) (Stp.alloc 1 Tryz.zeroValue128 rfl (fun b s q => ⟨rfl, rfl, _, rfl, fun hb => rfl⟩))) ?_
    refine Stps.cons (Stp.storeW 1 Tryz.sizeOf128 (fun b s hd => ⟨b 7, _, _, _, _, _, rfl, rfl, rfl, rfl, rfl, rfl, hd 7 (by decide), rfl, rfl, rfl⟩)) ?_
    refine Stps.cons (Stp.p (fun b s hd => ⟨_, ⟨rfl, P.assign rfl⟩, rfl, rfl⟩)) ?_
    exact Stps.nil
  case h0 => exact fun s => rfl
  case agree => exact AgrAll.cons (AgrL.yes (by kernel_rfl) (AgrL.no (fun s x => rfl) (AgrL.no (fun s x => rfl) (AgrL.yes (by kernel_rfl) (AgrL.yes (by kernel_rfl) (AgrL.yes (by kernel_rfl) (AgrL.yes (by kernel_rfl) (AgrL.no (fun s x => rfl) (AgrL.yes (by kernel_rfl) (AgrL.yes (by kernel_rfl) (AgrL.nil))))))))))) (AgrAll.cons (AgrL.no (fun s x => rfl) (AgrL.no (fun s x => rfl) (AgrL.no (fun s x => rfl) (AgrL.no (fun s x => rfl) (AgrL.no (fun s x => rfl) (AgrL.no (fun s x => rfl) (AgrL.no (fun s x => rfl) (AgrL.yes (by kernel_rfl) (AgrL.yes (by kernel_rfl) (AgrL.yes (by kernel_rfl) (AgrL.nil))))))))))) (AgrAll.nil))
  intro s1
  refine End.shape (ρ' := [(0, _), (1, _), (2, _), (3, _), (4, _), (6, _), (7, _), (8, _), (9, _), (10, _), (11, _), (12, _)]) (H' := [_, .blk _ _ #[_, _, _, _], _]) (Env.sub_cons rfl (Env.sub_cons rfl (Env.sub_cons rfl (Env.sub_cons rfl (Env.sub_cons rfl (Env.sub_cons rfl (Env.sub_cons rfl (Env.sub_cons rfl (Env.sub_cons rfl (Env.sub_cons rfl (Env.sub_cons rfl (Env.sub_cons rfl (Env.sub_nil))))))))))))) rfl ?_
  refine End.seq ?_
  refine WC.seq ?_
  refine WC.seq ?_
  refine WC.region ?_
  refine WL.p rfl rfl rfl (P.move rfl) ?_
  refine WL.p rfl rfl rfl (P.not_ rfl) ?_
  refine WL.p rfl rfl rfl (P.move rfl) ?_
  refine WL.split 15 rfl (fun hs15 => ?_) (fun hs15 => ?_)
  ·
    try simp only [decide_eq_true_eq, decide_eq_false_iff_not, beq_iff_eq, beq_eq_false_iff_ne, bne_iff_ne, bne_eq_false_iff_eq, Bool.not_eq_true', Bool.not_eq_false', ne_eq, Int.not_lt, Int.not_le] at hs15
    cases hs15
  ·
    try simp only [decide_eq_true_eq, decide_eq_false_iff_not, beq_iff_eq, beq_eq_false_iff_ne, bne_iff_ne, bne_eq_false_iff_eq, Bool.not_eq_true', Bool.not_eq_false', ne_eq, Int.not_lt, Int.not_le] at hs15
    refine WL.p rfl rfl rfl (P.fieldAddr fa_128_1 rfl) ?_
    refine WL.p rfl rfl rfl (P.loadO 1 Tryz.isAgg67 rfl rfl rfl) ?_
    refine WL.p rfl rfl rfl (P.fieldAddr fa_34_1 rfl) ?_
    refine WL.p rfl rfl rfl (P.loadO 2 Tryz.isAgg9 rfl rfl rfl) ?_
    refine WL.callc hF.entN rfl rfl rfl rfl (fun w hs => by rw [Array.append_empty]; exact hF.name e.name w (hg.st hs) hsz) ?_
    refine WL.p rfl rfl rfl (P.not_ rfl) ?_
    refine WL.p rfl rfl rfl (P.pickF rfl rfl) ?_
    refine WL.p rfl rfl rfl (P.move rfl) ?_
    refine WL.split 23 rfl (fun hs23 => ?_) (fun hs23 => ?_)
    ·
      try simp only [decide_eq_true_eq, decide_eq_false_iff_not, beq_iff_eq, beq_eq_false_iff_ne, bne_iff_ne, bne_eq_false_iff_eq, Bool.not_eq_true', Bool.not_eq_false', ne_eq, Int.not_lt, Int.not_le] at hs23
      refine WL.off rfl rfl ?_
      refine WL.off rfl rfl ?_
      refine WL.off rfl rfl ?_
      refine WL.off rfl rfl ?_
      refine WL.off rfl rfl ?_
      refine WL.p rfl rfl rfl (P.pickT rfl rfl) ?_
      refine WL.nil_ ?_
      refine End.seq ?_
      refine WC.condT rfl ?_
      refine WC.seq ?_
      refine WC.region ?_
      refine WL.p rfl rfl rfl (P.assign rfl) ?_
      refine WL.nil_ ?_
      refine End.seq ?_
      refine WC.ret ?_
      refine End.thenR ?_
      refine End.ret1 rfl rfl ?_
      exact fun w' hs' => RetV.of (by rw [KF.valid, hs23]; rfl) hs'
    ·
      try simp only [decide_eq_true_eq, decide_eq_false_iff_not, beq_iff_eq, beq_eq_false_iff_ne, bne_iff_ne, bne_eq_false_iff_eq, Bool.not_eq_true', Bool.not_eq_false', ne_eq, Int.not_lt, Int.not_le] at hs23
      refine WL.p rfl rfl rfl (P.fieldAddr fa_128_3 rfl) ?_
      refine WL.p rfl rfl rfl (P.loadO 1 Tryz.isAgg58 rfl rfl rfl) ?_
      refine WL.p rfl rfl rfl (P.loadW 2 Tryz.isAgg34 Tryz.sizeOf34 rfl rfl rfl) ?_
      refine WL.callc hF.entV rfl rfl rfl rfl (fun w hs => by rw [Array.append_empty]; exact hF.okL e _ _ w (hg.st hs) (ha0.st hs)) ?_
      refine WL.p rfl rfl rfl (P.not_ rfl) ?_
      refine WL.p rfl rfl rfl (P.pickF rfl rfl) ?_
      refine WL.nil_ ?_
      refine End.seq ?_
      refine WC.cond rfl (fun hc29 => ?_) (fun hc29 => ?_)
      ·
        try simp only [decide_eq_true_eq, decide_eq_false_iff_not, beq_iff_eq, beq_eq_false_iff_ne, bne_iff_ne, bne_eq_false_iff_eq, Bool.not_eq_true', Bool.not_eq_false', ne_eq, Int.not_lt, Int.not_le] at hc29
        refine WC.seq ?_
        refine WC.region ?_
        refine WL.p rfl rfl rfl (P.assign rfl) ?_
        refine WL.nil_ ?_
        refine End.seq ?_
        refine WC.ret ?_
        refine End.thenR ?_
        refine End.ret1 rfl rfl ?_
        exact fun w' hs' => RetV.of (by rw [KF.valid, hc29, Bool.false_and, Bool.and_false]) hs'
      ·
        try simp only [decide_eq_true_eq, decide_eq_false_iff_not, beq_iff_eq, beq_eq_false_iff_ne, bne_iff_ne, bne_eq_false_iff_eq, Bool.not_eq_true', Bool.not_eq_false', ne_eq, Int.not_lt, Int.not_le] at hc29
        refine WC.skip ?_
        refine End.seq ?_
        refine WC.seq ?_
        refine WC.region ?_
        refine WL.p rfl rfl rfl (P.loadW 1 Tryz.isAgg128 Tryz.sizeOf128 rfl rfl rfl) ?_
        refine WL.p rfl rfl rfl (P.loadW 2 Tryz.isAgg34 Tryz.sizeOf34 rfl rfl rfl) ?_
        refine WL.callx (ent_of Tryz.func115 rfl rfl) rfl rfl rfl (fun w hs => bare_any F hF e A1 A2 _ _ _ _ w hc29 (ha0.st hs)) (fun s4 _ => ?_)
        refine WL.p rfl rfl rfl (P.move rfl) ?_
        refine WL.p rfl rfl rfl (P.extract rfl rfl) ?_
        refine WL.p rfl rfl rfl (P.extract rfl rfl) ?_
        refine WL.alloc Tryz.zeroValue34 rfl rfl (fun b5 => ?_)
        refine WL.storeW 0 Tryz.sizeOf34 rfl rfl rfl (E.one _ (hF.one _ _).1 (hF.one _ _).2) rfl rfl rfl ?_
        refine WL.p rfl rfl rfl (P.assign rfl) ?_
        refine WL.nil_ ?_
        refine End.seq ?_
        refine WC.seq ?_
        refine WC.region ?_
        refine WL.p rfl rfl rfl (P.move rfl) ?_
        refine WL.p rfl rfl rfl (P.move rfl) ?_
        refine WL.split 37 rfl (fun hs37 => ?_) (fun hs37 => ?_)
        ·
          try simp only [decide_eq_true_eq, decide_eq_false_iff_not, beq_iff_eq, beq_eq_false_iff_ne, bne_iff_ne, bne_eq_false_iff_eq, Bool.not_eq_true', Bool.not_eq_false', ne_eq, Int.not_lt, Int.not_le] at hs37
          refine WL.p rfl rfl rfl (P.loadW 0 Tryz.isAgg34 Tryz.sizeOf34 rfl rfl rfl) ?_
          refine WL.p rfl rfl rfl (P.loadW 4 Tryz.isAgg34 Tryz.sizeOf34 rfl rfl rfl) ?_
          refine WL.callv (ent_of Tryz.func34 rfl rfl) rfl rfl rfl (fun w hs => same_any (F.re e).1 e (F.va s4 (F.re e).1) (F.vg s4 (F.re e).1) _ _ w (hF.at_ s4 1 _ e.bare0 _ _ _ _ rfl rfl rfl hs rfl) (ha0.st hs)) ?_
          refine WL.p rfl rfl rfl (P.pickT rfl rfl) ?_
          refine WL.p rfl rfl rfl (P.assign rfl) ?_
          refine WL.nil_ ?_
          refine End.seq ?_
          refine WC.ret ?_
          refine End.ret1 rfl rfl ?_
          exact fun w' hs' => RetV.of (by rw [KF.valid, hs23, hc29, decide_eq_true hs37]; rfl) hs'
        ·
          try simp only [decide_eq_true_eq, decide_eq_false_iff_not, beq_iff_eq, beq_eq_false_iff_ne, bne_iff_ne, bne_eq_false_iff_eq, Bool.not_eq_true', Bool.not_eq_false', ne_eq, Int.not_lt, Int.not_le] at hs37
          refine WL.off rfl rfl ?_
          refine WL.off rfl rfl ?_
          refine WL.off rfl rfl ?_
          refine WL.p rfl rfl rfl (P.pickF rfl rfl) ?_
          refine WL.p rfl rfl rfl (P.assign rfl) ?_
          refine WL.nil_ ?_
          refine End.seq ?_
          refine WC.ret ?_
          refine End.ret1 rfl rfl ?_
          exact fun w' hs' => RetV.of (by rw [KF.valid, decide_eq_false hs37, Bool.false_and, Bool.and_false, Bool.and_false]) hs'

set_option maxRecDepth 100000 in
theorem valid_none (e : E) (va vg : Value) (w : World) (hk : Instr.findNow (.int .i64) (.int .i64 e.kind) formsEs.toList 0 = some none) :
    Calls Tryz.prog 47 #[.agg (e.cells va vg)] w (RetV w (.bool false)) := by
  refine enter Tryz.func47 rfl Tryz.ntmps47 rfl ?_
  refine WC.seq ?_
  refine WC.region ?_
  refine WL.box rfl rfl rfl (fun b1 => ?_)
  refine WL.p rfl rfl rfl (P.assign rfl) ?_
  refine WL.nil_ ?_
  refine End.seq ?_
  refine WC.seq ?_
  refine WC.nil1 ?_
  refine WC.nil1 ?_
  apply WC.draws (al := [0, 7]) (vs := [fun s => .map (some (s 0).1), _, _, fun _ => .tuple #[.agg #[.int .u8 0, .nilFunc, .nilFunc, .nilFunc], .bool false], _, fun _ => .agg #[.int .u8 0, .nilFunc, .nilFunc, .nilFunc], _, fun s => .pointer (some ⟨(s 7).1, 0, none⟩), fun _ => undef, _]) (Hs := fun v HH b s => (bnew (b 7) (It.blk (s 7).1 128 (bif b 8 then cellsOf (v 5 s) else #[.int .u8 0, .nilFunc, .nilFunc, .nilFunc])) (bnew (b 0) (It.map (s 0).1 formsEs 5) HH 0) 1)) (by kernel_rfl) (by kernel_rfl) (by kernel_rfl)
  case steps =>
    refine Stps.cons (Stp.callx 0 (ent_of Tryz.func114 rfl rfl) rfl (fun b s hb hd => ⟨_, _, _, _, rfl, rfl, fun w hs => forms_any w, fun q => rfl, ⟨_, rfl⟩, fun q => rfl⟩)) ?_
    refine Stps.cons (Stp.p (fun b s hd => ⟨_, ⟨rfl, P.fieldAddr fa_34_0 rfl⟩, rfl, rfl⟩)) ?_
    refine Stps.cons (Stp.p (fun b s hd => ⟨_, ⟨rfl, P.loadO 2 Tryz.isAgg3 rfl rfl rfl⟩, rfl, rfl⟩)) ?_
    refine Stps.cons (Stp.on [0] (by kernel_rfl) (Stp.p (fun b s hd => ⟨_, ⟨rfl, P.lookup2n 0 (key := .int .i64 e.kind) Tryz.underlying130 Tryz.underlying3 (by simp [MapKept.IsKey]) Tryz.zeroValue128 rfl rfl rfl hk⟩, rfl, rfl⟩))) ?_
    refine Stps.cons (Stp.p (fun b s hd => ⟨_, ⟨rfl, P.move rfl⟩, rfl, rfl⟩)) ?_
    refine Stps.cons (Stp.p (fun b s hd => ⟨_, ⟨rfl, P.extract rfl rfl⟩, rfl, rfl⟩)) ?_
    refine Stps.cons (Stp.p (fun b s hd => ⟨_, ⟨rfl, P.extract rfl rfl⟩, rfl, rfl⟩)) ?_
    refine Stps.cons (Stp.off [8] (by kernel_rfl) (Stp.alloc 1 Tryz.zeroValue128 rfl (fun b s q => ⟨rfl, rfl, _, rfl, fun hb => rfl⟩))) ?_
    refine Stps.cons (Stp.storeW 1 Tryz.sizeOf128 (fun b s hd => ⟨b 7, _, _, _, _, _, rfl, rfl, rfl, rfl, rfl, rfl, hd 7 (by decide), rfl, rfl, rfl⟩)) ?_
    refine Stps.cons (Stp.p (fun b s hd => ⟨_, ⟨rfl, P.assign rfl⟩, rfl, rfl⟩)) ?_
    exact Stps.nil
  case h0 => exact fun s => rfl
  case agree => exact AgrAll.cons (AgrL.yes (by kernel_rfl) (AgrL.no (fun s x => rfl) (AgrL.no (fun s x => rfl) (AgrL.yes (by kernel_rfl) (AgrL.yes (by kernel_rfl) (AgrL.yes (by kernel_rfl) (AgrL.yes (by kernel_rfl) (AgrL.no (fun s x => rfl) (AgrL.yes (by kernel_rfl) (AgrL.yes (by kernel_rfl) (AgrL.nil))))))))))) (AgrAll.cons (AgrL.no (fun s x => rfl) (AgrL.no (fun s x => rfl) (AgrL.no (fun s x => rfl) (AgrL.no (fun s x => rfl) (AgrL.no (fun s x => rfl) (AgrL.no (fun s x => rfl) (AgrL.no (fun s x => rfl) (AgrL.yes (by kernel_rfl) (AgrL.yes (by kernel_rfl) (AgrL.yes (by kernel_rfl) (AgrL.nil))))))))))) (AgrAll.nil))
  intro s1
  refine End.shape (ρ' := [(0, _), (1, _), (2, _), (3, _), (4, _), (6, _), (7, _), (8, _), (9, _), (10, _), (11, _), (12, _)]) (H' := [_, .blk _ _ #[_, _, _, _], _]) (Env.sub_cons rfl (Env.sub_cons rfl (Env.sub_cons rfl (Env.sub_cons rfl (Env.sub_cons rfl (Env.sub_cons rfl (Env.sub_cons rfl (Env.sub_cons rfl (Env.sub_cons rfl (Env.sub_cons rfl (Env.sub_cons rfl (Env.sub_cons rfl (Env.sub_nil))))))))))))) rfl ?_
  refine End.seq ?_
  refine WC.seq ?_
  refine WC.seq ?_
  refine WC.region ?_
  refine WL.p rfl rfl rfl (P.move rfl) ?_
  refine WL.p rfl rfl rfl (P.not_ rfl) ?_
  refine WL.p rfl rfl rfl (P.move rfl) ?_
  refine WL.split 15 rfl (fun hs15 => ?_) (fun hs15 => ?_)
  ·
    try simp only [decide_eq_true_eq, decide_eq_false_iff_not, beq_iff_eq, beq_eq_false_iff_ne, bne_iff_ne, bne_eq_false_iff_eq, Bool.not_eq_true', Bool.not_eq_false', ne_eq, Int.not_lt, Int.not_le] at hs15
    refine WL.off rfl rfl ?_
    refine WL.off rfl rfl ?_
    refine WL.off rfl rfl ?_
    refine WL.off rfl rfl ?_
    refine WL.off rfl rfl ?_
    refine WL.off rfl rfl ?_
    refine WL.p rfl rfl rfl (P.pickT rfl rfl) ?_
    refine WL.p rfl rfl rfl (P.move rfl) ?_
    refine WL.off rfl rfl ?_
    refine WL.off rfl rfl ?_
    refine WL.off rfl rfl ?_
    refine WL.off rfl rfl ?_
    refine WL.off rfl rfl ?_
    refine WL.p rfl rfl rfl (P.pickT rfl rfl) ?_
    refine WL.nil_ ?_
    refine End.seq ?_
    refine WC.condT rfl ?_
    refine WC.seq ?_
    refine WC.region ?_
    refine WL.p rfl rfl rfl (P.assign rfl) ?_
    refine WL.nil_ ?_
    refine End.seq ?_
    refine WC.ret ?_
    refine End.thenR ?_
    refine End.ret1 rfl rfl ?_
    exact fun w' hs' => RetV.of rfl hs'
  ·
    try simp only [decide_eq_true_eq, decide_eq_false_iff_not, beq_iff_eq, beq_eq_false_iff_ne, bne_iff_ne, bne_eq_false_iff_eq, Bool.not_eq_true', Bool.not_eq_false', ne_eq, Int.not_lt, Int.not_le] at hs15
    cases hs15

end Go.Proofs.YtlkkiimmangplaaGreatDoor

/- Patterns. -/
namespace Go.Proofs.YtlkkiimmangplaaGreatDoor
open Go.RowKit
set_option linter.unusedVariables false
set_option linter.unusedSimpArgs false

theorem contains_sub (s sub : ByteArray) (w : World) (hg : Good w) (hs : s.size < 4294967281) : Calls Tryz.prog 192 #[.string s, .string sub] w (RetV w (.bool (Lib.contains s.data.toList sub.data.toList))) :=
  (Tryz.strings_Contains_shaped s sub w hg.shaped hs).mono fun e w' ⟨h1, h2⟩ => ⟨h1, by rw [h2]; exact St.refl w⟩
def isStar (c : UInt8) : Bool := isUpper (c.toNat : Int) || ((c.toNat : Int) == 42)
def isPlainStar (c : UInt8) : Bool := (isUpper (c.toNat : Int) || isDigit (c.toNat : Int)) || ((c.toNat : Int) == 42)

set_option maxRecDepth 100000 in
theorem star_any (c : UInt8) (w : World) :
    Calls Tryz.prog 189 #[.int .u8 (c.toNat : Int)] w (RetV w (.bool (isStar c))) := by
  refine enter Tryz.func189 rfl Tryz.ntmps189 rfl ?_
  refine WC.seq ?_
  refine WC.region ?_
  refine WL.p rfl rfl rfl (P.assign rfl) ?_
  refine WL.nil_ ?_
  refine End.seq ?_
  refine WC.seq ?_
  refine WC.region ?_
  refine WL.p rfl rfl rfl (P.move rfl) ?_
  refine WL.callv (ent_of Tryz.func165 rfl rfl) rfl rfl rfl (fun w hs => upper_any _ w) ?_
  refine WL.p rfl rfl rfl (P.move rfl) ?_
  refine WL.split 5 rfl (fun hs5 => ?_) (fun hs5 => ?_)
  ·
    refine WL.off rfl rfl ?_
    refine WL.off rfl rfl ?_
    refine WL.p rfl rfl rfl (P.pickT rfl rfl) ?_
    refine WL.p rfl rfl rfl (P.assign rfl) ?_
    refine WL.nil_ ?_
    refine End.seq ?_
    refine WC.ret ?_
    refine End.ret1 rfl rfl ?_
    exact fun w' hs' => RetV.of (by simp [isStar, hs5]) hs'
  ·
    refine WL.p rfl rfl rfl (P.move rfl) ?_
    refine WL.p rfl rfl rfl (P.cmp rfl rfl rfl) ?_
    refine WL.p rfl rfl rfl (P.pickF rfl rfl) ?_
    refine WL.p rfl rfl rfl (P.assign rfl) ?_
    refine WL.nil_ ?_
    refine End.seq ?_
    refine WC.ret ?_
    refine End.ret1 rfl rfl ?_
    exact fun w' hs' => RetV.of (by simp [isStar, hs5]) hs'

set_option maxRecDepth 100000 in
theorem plainStar_any (c : UInt8) (w : World) :
    Calls Tryz.prog 191 #[.int .u8 (c.toNat : Int)] w (RetV w (.bool (isPlainStar c))) := by
  refine enter Tryz.func191 rfl Tryz.ntmps191 rfl ?_
  refine WC.seq ?_
  refine WC.region ?_
  refine WL.p rfl rfl rfl (P.assign rfl) ?_
  refine WL.nil_ ?_
  refine End.seq ?_
  refine WC.seq ?_
  refine WC.region ?_
  refine WL.p rfl rfl rfl (P.move rfl) ?_
  refine WL.callv (ent_of Tryz.func166 rfl rfl) rfl rfl rfl (fun w hs => plain_any _ w) ?_
  refine WL.p rfl rfl rfl (P.move rfl) ?_
  refine WL.split 5 rfl (fun hs5 => ?_) (fun hs5 => ?_)
  ·
    refine WL.off rfl rfl ?_
    refine WL.off rfl rfl ?_
    refine WL.p rfl rfl rfl (P.pickT rfl rfl) ?_
    refine WL.p rfl rfl rfl (P.assign rfl) ?_
    refine WL.nil_ ?_
    refine End.seq ?_
    refine WC.ret ?_
    refine End.ret1 rfl rfl ?_
    exact fun w' hs' => RetV.of (by simp [isPlainStar, hs5]) hs'
  ·
    refine WL.p rfl rfl rfl (P.move rfl) ?_
    refine WL.p rfl rfl rfl (P.cmp rfl rfl rfl) ?_
    refine WL.p rfl rfl rfl (P.pickF rfl rfl) ?_
    refine WL.p rfl rfl rfl (P.assign rfl) ?_
    refine WL.nil_ ?_
    refine End.seq ?_
    refine WC.ret ?_
    refine End.ret1 rfl rfl ?_
    exact fun w' hs' => RetV.of (by simp [isPlainStar, hs5]) hs'

theorem star_pred : PredC 189 isStar := ⟨ent_of Tryz.func189 rfl rfl, fun c w => star_any c w⟩
theorem plainStar_pred : PredC 191 isPlainStar := ⟨ent_of Tryz.func191 rfl rfl, fun c w => plainStar_any c w⟩
def stars : ByteArray := ⟨#[42, 42]⟩
/-- One part of a pattern. -/
def patQ (q : ByteArray) : Bool := decide (q = stars) || (qualB isStar isPlainStar q.data.toList && !(Lib.contains q.data.toList [42, 42]))
def patB (s : ByteArray) : Bool := allB 31 patQ s

set_option maxRecDepth 100000 in
theorem patQ_any (q : ByteArray) (b : Nat) (w : World) (hg : Good w) (hb : w.cell? ⟨b, 0, none⟩ = some (.func (.func 189) #[] #[])) (hsz : q.size < 4294967281) :
    Calls Tryz.prog 190 #[.string q, .pointer (some ⟨b, 0, none⟩)] w (RetV w (.bool (patQ q))) := by
  refine enter Tryz.func190 rfl Tryz.ntmps190 rfl ?_
  refine WC.seq ?_
  refine WC.region ?_
  refine WL.p rfl rfl rfl (P.assign rfl) ?_
  refine WL.nil_ ?_
  refine End.seq ?_
  refine WC.seq ?_
  refine WC.region ?_
  refine WL.p rfl rfl rfl (P.move rfl) ?_
  refine WL.p rfl rfl rfl (P.cmps rfl rfl rfl) ?_
  refine WL.p rfl rfl rfl (P.move rfl) ?_
  refine WL.split 6 rfl (fun hs6 => ?_) (fun hs6 => ?_)
  ·
    rw [toList_beq] at hs6
    refine WL.off rfl rfl ?_
    refine WL.off rfl rfl ?_
    refine WL.off rfl rfl ?_
    refine WL.off rfl rfl ?_
    refine WL.offU rfl rfl ?_
    refine WL.offU rfl rfl ?_
    refine WL.offU rfl rfl ?_
    refine WL.off rfl rfl ?_
    refine WL.p rfl rfl rfl (P.pickT rfl rfl) ?_
    refine WL.p rfl rfl rfl (P.assign rfl) ?_
    refine WL.nil_ ?_
    refine End.seq ?_
    refine WC.ret ?_
    refine End.ret1 rfl rfl ?_
    exact fun w' hs' => RetV.of (by rw [patQ, show decide (q = stars) = true from hs6]; rfl) hs'
  ·
    rw [toList_beq] at hs6
    refine WL.p rfl rfl rfl (P.move rfl) ?_
    refine WL.p rfl rfl rfl (P.loadB Tryz.isAgg187 rfl hb) ?_
    refine WL.callv (ent_of Tryz.func164 rfl rfl) rfl rfl rfl (fun w hs => qualifier_any q 189 191 _ _ w star_pred plainStar_pred hsz) ?_
    refine WL.p rfl rfl rfl (P.move rfl) ?_
    refine WL.split 10 rfl (fun hs10 => ?_) (fun hs10 => ?_)
    ·
      refine WL.p rfl rfl rfl (P.move rfl) ?_
      refine WL.callv (ent_of Tryz.func192 rfl rfl) rfl rfl rfl (fun w hs => contains_sub q stars w (hg.st hs) hsz) ?_
      refine WL.p rfl rfl rfl (P.not_ rfl) ?_
      refine WL.p rfl rfl rfl (P.pickT rfl rfl) ?_
      refine WL.p rfl rfl rfl (P.pickF rfl rfl) ?_
      refine WL.p rfl rfl rfl (P.assign rfl) ?_
      refine WL.nil_ ?_
      refine End.seq ?_
      refine WC.ret ?_
      refine End.ret1 rfl rfl ?_
      exact fun w' hs' => RetV.of (by rw [patQ, show decide (q = stars) = false from hs6, hs10]; rfl) hs'
    ·
      refine WL.off rfl rfl ?_
      refine WL.off rfl rfl ?_
      refine WL.off rfl rfl ?_
      refine WL.p rfl rfl rfl (P.pickF rfl rfl) ?_
      refine WL.p rfl rfl rfl (P.pickF rfl rfl) ?_
      refine WL.p rfl rfl rfl (P.assign rfl) ?_
      refine WL.nil_ ?_
      refine End.seq ?_
      refine WC.ret ?_
      refine End.ret1 rfl rfl ?_
      exact fun w' hs' => RetV.of (by rw [patQ, show decide (q = stars) = false from hs6, hs10]; rfl) hs'

set_option maxRecDepth 100000 in
theorem pattern_any (s : ByteArray) (w : World) (hg : Good w) :
    Calls Tryz.prog 106 #[.string s] w (RetV w (.bool (patB s))) := by
  refine enter Tryz.func106 rfl Tryz.ntmps106 rfl ?_
  refine WC.seq ?_
  refine WC.region ?_
  refine WL.p rfl rfl rfl (P.assign rfl) ?_
  refine WL.nil_ ?_
  refine End.seq ?_
  refine WC.seq ?_
  refine WC.region ?_
  refine WL.alloc Tryz.zeroValue187 rfl rfl (fun b3 => ?_)
  refine WL.store 0 Tryz.sizeOf187 rfl rfl rfl rfl rfl rfl ?_
  refine WL.nil_ ?_
  refine End.seq ?_
  refine WC.seq ?_
  refine WC.region ?_
  refine WL.p rfl rfl rfl (P.move rfl) ?_
  refine WL.p rfl rfl rfl (P.makeFunc rfl) ?_
  refine WL.callv (ent_of Tryz.func162 rfl rfl) rfl rfl rfl (fun w hs => all_any s 31 190 #[.pointer (some ⟨b3, 0, none⟩)] patQ w (hg.st hs) ⟨ent_of Tryz.func190 rfl rfl, fun q w' hb h => patQ_any q b3 w' ((hg.st hs).below hb) (by have h0 : w.cell? ⟨b3, 0, none⟩ = some (.func (.func 189) #[] #[]) := (cell_blk (hs.ok 0 _ rfl).2).trans rfl; exact (hb.cell (World.block_lt_of_cell? _ _ h0)).trans h0) h⟩ (by omega)) ?_
  refine WL.p rfl rfl rfl (P.assign rfl) ?_
  refine WL.nil_ ?_
  refine End.seq ?_
  refine WC.ret ?_
  refine End.ret1 rfl rfl ?_
  exact fun w' hs' => RetV.of rfl hs'

end Go.Proofs.YtlkkiimmangplaaGreatDoor

/- The kinds: profiles and groups. -/
namespace Go.Proofs.YtlkkiimmangplaaGreatDoor
open Go.RowKit
set_option linter.unusedVariables false
set_option linter.unusedSimpArgs false
def prof : KF where
  kind := 4
  L := 80
  N := 106
  g := 212
  V := 213
  nm := patB
  ok := profOK
  out := fun out e => profOut out e.level e.owner e.grants
  rd := fun e x => ({ e with level := clampN x.num.1, owner := (x.num.2.text 200).1, grants := (prG x).1 }, (prG x).2)
  it := fun s e => gIt s e.grants
  va := fun _ _ => vnil
  vg := fun s e => gVal s e.grants.length
theorem word_size {s : ByteArray} (h : wordB s = true) : s.size ≤ 31 := by
  unfold wordB at h
  rw [Bool.and_eq_true] at h
  exact name_size h.1
theorem owner_size {s : ByteArray} (h : (decide (s = bempty) || wordB s) = true) : s.size ≤ 31 := by
  rw [Bool.or_eq_true, decide_eq_true_eq] at h
  rcases h with rfl | h
  · decide
  · exact word_size h
theorem grsOK_mem : ∀ {gs : List Gr} {seen : List (ByteArray × Bool)}, grsOK gs seen = true → ∀ g ∈ gs, g.who.size ≤ 31 ∧ 0 ≤ g.level ∧ g.level ≤ 3
  | [], _, _ => by simp
  | x :: r, seen, h => fun g hg => by
    rw [grsOK, Bool.and_eq_true, Bool.and_eq_true, Bool.and_eq_true] at h
    rcases List.mem_cons.1 hg with rfl | hg
    · have := inB_one h.2.1
      exact ⟨word_size h.1, this⟩
    · exact grsOK_mem h.2.2.2 g hg
theorem profOK_lim {e : E} (h : profOK e = true) : (0 ≤ e.level ∧ e.level ≤ 3) ∧ e.owner.size ≤ 31 ∧ e.grants.length ≤ 8 ∧ ∀ g ∈ e.grants, g.who.size ≤ 31 ∧ 0 ≤ g.level ∧ g.level ≤ 3 := by
  unfold profOK at h
  rw [Bool.and_eq_true, Bool.and_eq_true, Bool.and_eq_true, decide_eq_true_eq] at h
  exact ⟨inB_one h.2.1, owner_size h.2.2.1, by have := h.2.2.2; omega, grsOK_mem h.1⟩
theorem prof_law : prof.Law where
  entN := ent_of Tryz.func106 rfl rfl
  entg := ent_of Tryz.func212 rfl rfl
  entV := ent_of Tryz.func213 rfl rfl
  form := ⟨4, rfl⟩
  name s w hg _ := pattern_any s w hg
  okL e va vg w hg ha := profOK_any e va vg w hg ha
  size e out h := by
    have hl := profOK_lim h
    have h1 := gsOut_size e.grants (out ++ strOfNums (encF 9 e.level) ++ encText e.owner ++ strOfNums (encF 9 e.grants.length)) (fun g hg => by have := (hl.2.2.2 g hg).1; omega)
    have h2 := encF_len 9 e.level
    have h3 := encText_size e.owner
    have h4 := encF_len 9 e.grants.length
    simp only [size_append, strOfNums_size] at h1
    show (profOut out e.level e.owner e.grants).size < _
    unfold profOut
    omega
  write e va vg w0 h ha := fun c q out H w ho hs => by
    have hl := profOK_lim h
    obtain ⟨_, A2, c2, rfl, hc2, hr2⟩ := ha
    exact profile_w c q out _ e.level e.owner A2 c2 e.grants w0 w H hs rfl rfl rfl hr2 (by omega) (fun g hg => by have := hl.2.2.2 g hg; omega) (fun g hg => by have := hl.2.2.2 g hg; omega) hl.2.2.1 (by omega) (by omega) (by omega)
  read e x hal hgr hsz := fun r c q out w0 H w hs => by
    refine (profile_r r c q x out _ w0 w H hs hsz rfl rfl).mono fun en w' h => ?_
    obtain ⟨b, h1, h2⟩ := h
    refine ⟨b, h1, ?_⟩
    have hlen : (prG x).1.length = prN x := gRead_len _ _
    show St w0 (rdB r (prG x).2 :: cB c out (some ⟨r, 0, none⟩) :: gIt b (prG x).1 :: .blk q 34 (({ e with level := clampN x.num.1, owner := (x.num.2.text 200).1, grants := (prG x).1 } : E).cells vnil (gVal b (prG x).1.length)) :: H) w'
    rw [hlen]
    exact h2
  at_ s j e e0 x H w0 w he hal hgr hs hj := by
    subst he
    have hlen : (prG x).1.length = prN x := gRead_len _ _
    have hcn := cntR_le (prX x)
    have hpn : prN x ≤ 9 := by unfold prN; omega
    refine ⟨⟨none, 0, ?_, ?_, ?_⟩, ?_⟩
    · show vnil = .slice none e0.alt.length 0
      rw [hal]; rfl
    · show e0.alt.length ≤ 0
      rw [hal]; exact Nat.le_refl _
    · show Sl encI 1 w none e0.alt
      rw [hal]; exact Sl.nil _ _ _
    · show ∃ A c, gVal s (prG x).1.length = .slice A (prG x).1.length c ∧ (prG x).1.length ≤ c ∧ Sl Gr.cells 3 w A (prG x).1
      by_cases h0 : (prG x).1.length = 0
      · refine ⟨none, 0, by rw [gVal, if_pos h0, h0]; rfl, by omega, ?_⟩
        rw [List.length_eq_zero_iff.1 h0]
        exact Sl.nil _ _ _
      · refine ⟨some ⟨s, 0, none⟩, (prG x).1.length, by rw [gVal, if_neg h0], Nat.le_refl _, ?_⟩
        have hj' : H[j]? = some (.blk s 51 (gcells (prG x).1).toArray) := by
          rw [hj]
          show some (gIt s (prG x).1) = _
          rw [gIt, if_neg h0]
        exact slG_blk hs hj' (by omega)
  keep e x := ⟨rfl, rfl⟩
  letter := by decide
  one s e := by
    refine ⟨rfl, ?_⟩
    show (gVal s e.grants.length).oneCell' = true
    unfold gVal
    split <;> rfl
def grp : KF where
  kind := 1
  L := 71
  N := 187
  g := 196
  V := 200
  nm := groupB
  ok := groupOK
  out := fun out e => grpOut out e.limit e.last e.empty e.owner
  rd := fun e x => ({ e with limit := clampN x.num.1, last := clampN x.num.2.num.1, empty := x.num.2.num.2.bool.1, owner := (x.num.2.num.2.bool.2.text 200).1 }, (x.num.2.num.2.bool.2.text 200).2)
  it := fun _ _ => .nil
  va := fun _ _ => vnil
  vg := fun _ _ => vnil
theorem groupOK_own {e : E} (h : groupOK e = true) : (1 ≤ e.limit ∧ e.limit ≤ 63) ∧ (0 ≤ e.last ∧ e.last ≤ 9999) ∧ e.owner.size ≤ 31 := by
  unfold groupOK at h
  rw [Bool.and_eq_true, Bool.and_eq_true] at h
  exact ⟨inB_one h.1, inB_one h.2.1, owner_size h.2.2⟩
theorem St.nil3 {w0 w : World} {a b : It} {H : List It} (h : St w0 (a :: b :: H) w) : St w0 (a :: b :: .nil :: H) w := h.nil.rot3
theorem grp_law : grp.Law where
  entN := ent_of Tryz.func187 rfl rfl
  entg := ent_of Tryz.func196 rfl rfl
  entV := ent_of Tryz.func200 rfl rfl
  form := ⟨1, rfl⟩
  name s w hg _ := isGroup_any s w hg
  okL e va vg w hg ha := groupOK_any e va vg w hg
  size e out h := by
    have hl := groupOK_own h
    have h1 := encF_len 9 e.limit
    have h2 := encF_len 9 e.last
    have h3 := encText_size e.owner
    show (grpOut out e.limit e.last e.empty e.owner).size < _
    simp only [grpOut, size_append, strOfNums_size, List.length_cons, List.length_nil]
    omega
  write e va vg w0 h ha := fun c q out H w ho hs => by
    have hl := groupOK_own h
    exact group_w c q out _ e.limit e.last e.empty e.owner w0 w H hs rfl rfl rfl rfl (by omega) (by omega) (by omega) (by omega)
  read e x hal hgr hsz := fun r c q out w0 H w hs =>
    (group_r r c q x out _ w0 w H hs hsz rfl).mono fun en w' h => ⟨0, h.1, h.2.nil3⟩
  at_ s j e e0 x H w0 w he hal hgr hs hj := by
    subst he
    exact entNil hal hgr
  keep e x := ⟨rfl, rfl⟩
  letter := by decide
  one s e := ⟨rfl, rfl⟩
end Go.Proofs.YtlkkiimmangplaaGreatDoor

/- Aliases and catalogs. -/
namespace Go.Proofs.YtlkkiimmangplaaGreatDoor
open Go.RowKit
set_option linter.unusedVariables false
set_option linter.unusedSimpArgs false

theorem lastByte_any (s : ByteArray) (w : World) (h : s.size < 4294967281) : Calls Tryz.prog 269 #[.string s, .int .u8 46] w (RetV w (.int .i64 (Lib.lastIndexByte s 46))) :=
  (Tryz.strings_LastIndexByte s 46 (by omega) w).mono fun e w' ⟨h1, h2⟩ => ⟨h1, by rw [h2]; exact St.refl w⟩
theorem lastByte_lim (s : ByteArray) : -1 ≤ Lib.lastIndexByte s 46 ∧ Lib.lastIndexByte s 46 < s.size := by
  rcases Lib.lastIndexByte_spec s 46 with h | h
  · omega
  · obtain ⟨i, h1, h2, _⟩ := h
    omega
abbrev lastP (s : ByteArray) : Int := Lib.lastIndexByte s 46
/-- The name of a generation: its group, and its number. -/
def splitV (s : ByteArray) : Bool := !decide (lastP s < 0) && (groupB (s.extract 0 (lastP s).toNat) && !(genNum (s.extract (lastP s + 1).toNat s.size).data.toList == 0))
def splitG (s : ByteArray) : ByteArray := if splitV s = true then s.extract 0 (lastP s).toNat else ⟨#[]⟩
def splitN (s : ByteArray) : Int := if splitV s = true then genNum (s.extract (lastP s + 1).toNat s.size).data.toList else 0
theorem split_no {s : ByteArray} (h : splitV s = false) : (Value.tuple #[.string ⟨#[]⟩, .int .i64 0, .bool false]) = .tuple #[.string (splitG s), .int .i64 (splitN s), .bool (splitV s)] := by rw [splitG, splitN, h]; rfl
theorem split_yes {s : ByteArray} (h : splitV s = true) : (Value.tuple #[.string (s.extract 0 (lastP s).toNat), .int .i64 (genNum (s.extract (lastP s + 1).toNat s.size).data.toList), .bool true]) = .tuple #[.string (splitG s), .int .i64 (splitN s), .bool (splitV s)] := by rw [splitG, splitN, h]; rfl
theorem extract_size (s : ByteArray) (a b : Nat) : (s.extract a b).size ≤ s.size := by simp [ByteArray.size_extract]; omega

set_option maxRecDepth 100000 in
theorem split204_any (s : ByteArray) (w : World) (hg : Good w) (hsz : s.size < 4294967281) :
    Calls Tryz.prog 204 #[.string s] w (RetV w (.tuple #[.string (splitG s), .int .i64 (splitN s), .bool (splitV s)])) := by
  have hl := lastByte_lim s
  have hx1 := extract_size s 0 (lastP s).toNat
  have hx2 := extract_size s (lastP s + 1).toNat s.size
  refine enter Tryz.func204 rfl Tryz.ntmps204 rfl ?_
  refine WC.seq ?_
  refine WC.region ?_
  refine WL.p rfl rfl rfl (P.assign rfl) ?_
  refine WL.p rfl rfl rfl (P.assign rfl) ?_
  refine WL.p rfl rfl rfl (P.assign rfl) ?_
  refine WL.nil_ ?_
  refine End.seq ?_
  refine WC.seq ?_
  refine WC.region ?_
  refine WL.p rfl rfl rfl (P.move rfl) ?_
  refine WL.callv (ent_of Tryz.func269 rfl rfl) rfl rfl rfl (fun w hs => lastByte_any s w hsz) ?_
  refine WL.p rfl rfl rfl (P.assign rfl) ?_
  refine WL.nil_ ?_
  refine End.seq ?_
  refine WC.seq ?_
  refine WC.seq ?_
  refine WC.region ?_
  refine WL.p rfl rfl rfl (P.move rfl) ?_
  refine WL.p rfl rfl rfl (P.cmp rfl rfl rfl) ?_
  refine WL.p rfl rfl rfl (P.move rfl) ?_
  refine WL.split 10 rfl (fun hs10 => ?_) (fun hs10 => ?_)
  ·
    refine WL.off rfl rfl ?_
    refine WL.off rfl rfl ?_
    refine WL.off rfl rfl ?_
    refine WL.off rfl rfl ?_
    refine WL.off rfl rfl ?_
    refine WL.p rfl rfl rfl (P.pickT rfl rfl) ?_
    refine WL.p rfl rfl rfl (P.move rfl) ?_
    refine WL.off rfl rfl ?_
    refine WL.off rfl rfl ?_
    refine WL.off rfl rfl ?_
    refine WL.off rfl rfl ?_
    refine WL.off rfl rfl ?_
    refine WL.off rfl rfl ?_
    refine WL.p rfl rfl rfl (P.pickT rfl rfl) ?_
    refine WL.nil_ ?_
    refine End.seq ?_
    refine WC.condT rfl ?_
    refine WC.seq ?_
    refine WC.region ?_
    refine WL.p rfl rfl rfl (P.assign rfl) ?_
    refine WL.p rfl rfl rfl (P.assign rfl) ?_
    refine WL.p rfl rfl rfl (P.assign rfl) ?_
    refine WL.nil_ ?_
    refine End.seq ?_
    refine WC.ret ?_
    refine End.thenR ?_
    refine End.ret3 rfl rfl rfl rfl ?_
    exact fun w' hs' => RetV.of (split_no (by rw [splitV, hs10]; rfl)) hs'
  ·
    have hl0 := of_decide_eq_false hs10
    refine WL.p rfl rfl rfl (P.move rfl) ?_
    refine WL.p rfl rfl rfl (P.move rfl) ?_
    refine WL.p rfl rfl rfl (P.subH Tryz.underlying9 rfl rfl (by omega) (by omega)) ?_
    refine WL.callv (ent_of Tryz.func187 rfl rfl) rfl rfl rfl (fun w hs => isGroup_any _ w (hg.st hs)) ?_
    refine WL.p rfl rfl rfl (P.not_ rfl) ?_
    refine WL.p rfl rfl rfl (P.pickF rfl rfl) ?_
    refine WL.p rfl rfl rfl (P.move rfl) ?_
    refine WL.split 17 rfl (fun hs17 => ?_) (fun hs17 => ?_)
    ·
      refine WL.off rfl rfl ?_
      refine WL.off rfl rfl ?_
      refine WL.off rfl rfl ?_
      refine WL.off rfl rfl ?_
      refine WL.off rfl rfl ?_
      refine WL.off rfl rfl ?_
      refine WL.p rfl rfl rfl (P.pickT rfl rfl) ?_
      refine WL.nil_ ?_
      refine End.seq ?_
      refine WC.condT rfl ?_
      refine WC.seq ?_
      refine WC.region ?_
      refine WL.p rfl rfl rfl (P.assign rfl) ?_
      refine WL.p rfl rfl rfl (P.assign rfl) ?_
      refine WL.p rfl rfl rfl (P.assign rfl) ?_
      refine WL.nil_ ?_
      refine End.seq ?_
      refine WC.ret ?_
      refine End.thenR ?_
      refine End.ret3 rfl rfl rfl rfl ?_
      exact fun w' hs' => RetV.of (split_no (by simp at hs17; rw [splitV, hs17]; simp)) hs'
    ·
      refine WL.p rfl rfl rfl (P.move rfl) ?_
      refine WL.p rfl rfl rfl (P.move rfl) ?_
      refine WL.p rfl rfl rfl (P.ari64 rfl rfl rfl (by omega)) ?_
      refine WL.p rfl rfl rfl (P.subL Tryz.underlying9 rfl rfl (by omega) (by omega)) ?_
      refine WL.callv (ent_of Tryz.func260 rfl rfl) rfl rfl rfl (fun w hs => number_any _ w (by have := extract_size s (Lib.lastIndexByte s 46 + 1).toNat s.size; omega)) ?_
      refine WL.p rfl rfl rfl (P.cmp rfl rfl rfl) ?_
      refine WL.p rfl rfl rfl (P.pickF rfl rfl) ?_
      refine WL.nil_ ?_
      refine End.seq ?_
      refine WC.cond rfl (fun hc24 => ?_) (fun hc24 => ?_)
      ·
        refine WC.seq ?_
        refine WC.region ?_
        refine WL.p rfl rfl rfl (P.assign rfl) ?_
        refine WL.p rfl rfl rfl (P.assign rfl) ?_
        refine WL.p rfl rfl rfl (P.assign rfl) ?_
        refine WL.nil_ ?_
        refine End.seq ?_
        refine WC.ret ?_
        refine End.thenR ?_
        refine End.ret3 rfl rfl rfl rfl ?_
        exact fun w' hs' => RetV.of (split_no (by rw [splitV, hc24]; simp)) hs'
      ·
        refine WC.skip ?_
        refine End.seq ?_
        refine WC.seq ?_
        refine WC.quiet (by kernel_rfl) ?_
        refine WQ.p rfl rfl rfl (P.move rfl) ?_
        refine WQ.p rfl rfl rfl (P.move rfl) ?_
        refine WQ.p rfl rfl rfl (P.subH Tryz.underlying9 rfl rfl (by omega) (by omega)) ?_
        refine WQ.p rfl rfl rfl (P.move rfl) ?_
        refine WQ.p rfl rfl rfl (P.move rfl) ?_
        refine WQ.p rfl rfl rfl (P.ari64 rfl rfl rfl (by omega)) ?_
        refine WQ.p rfl rfl rfl (P.subL Tryz.underlying9 rfl rfl (by omega) (by omega)) ?_
        refine WQ.callv (ent_of Tryz.func260 rfl rfl) rfl rfl rfl (fun w hs => number_any _ w (by have := extract_size s (Lib.lastIndexByte s 46 + 1).toNat s.size; omega)) ?_
        refine WQ.p rfl rfl rfl (P.assign rfl) ?_
        refine WQ.p rfl rfl rfl (P.assign rfl) ?_
        refine WQ.p rfl rfl rfl (P.assign rfl) ?_
        refine WQ.nil_ ?_
        refine End.seq ?_
        refine WC.ret ?_
        refine End.ret3 rfl rfl rfl rfl ?_
        exact fun w' hs' => RetV.of (split_yes (by simp at hs17; rw [splitV, hs10, hs17, hc24]; rfl)) hs'

def aliasN (s : ByteArray) : Bool := nameB s && !splitV s
def aliasOK (e : E) : Bool := nameB e.target && !(e.target.toList == e.name.toList)
def catN (s : ByteArray) : Bool := nameB s && decide ((Lib.countByte s.data.toList 46 : Int) < 2)
def catOK (e : E) : Bool := inB 1 15 [e.catalog]
theorem count_one (s : ByteArray) (w : World) : Calls Tryz.prog 208 #[.string s, .string dot] w (RetV w (.int .i64 (Lib.countByte s.data.toList 46))) :=
  (Tryz.strings_Count_one s 46 w).mono fun e w' ⟨h1, h2⟩ => ⟨h1, by rw [h2]; exact St.refl w⟩

set_option maxRecDepth 100000 in
theorem aliasN_any (s : ByteArray) (w : World) (hg : Good w) (hsz : s.size < 4294967281) :
    Calls Tryz.prog 203 #[.string s] w (RetV w (.bool (aliasN s))) := by
  refine enter Tryz.func203 rfl Tryz.ntmps203 rfl ?_
  refine WC.seq ?_
  refine WC.region ?_
  refine WL.p rfl rfl rfl (P.assign rfl) ?_
  refine WL.nil_ ?_
  refine End.seq ?_
  refine WC.seq ?_
  refine WC.region ?_
  refine WL.p rfl rfl rfl (P.move rfl) ?_
  refine WL.callv (ent_of Tryz.func204 rfl rfl) rfl rfl rfl (fun w hs => split204_any s w (hg.st hs) hsz) ?_
  refine WL.p rfl rfl rfl (P.move rfl) ?_
  refine WL.p rfl rfl rfl (P.extract rfl rfl) ?_
  refine WL.p rfl rfl rfl (P.extract rfl rfl) ?_
  refine WL.p rfl rfl rfl (P.extract rfl rfl) ?_
  refine WL.p rfl rfl rfl (P.assign rfl) ?_
  refine WL.p rfl rfl rfl (P.assign rfl) ?_
  refine WL.p rfl rfl rfl (P.assign rfl) ?_
  refine WL.nil_ ?_
  refine End.seq ?_
  refine WC.seq ?_
  refine WC.region ?_
  refine WL.p rfl rfl rfl (P.move rfl) ?_
  refine WL.callv (ent_of Tryz.func76 rfl rfl) rfl rfl rfl (fun w hs => nameValid_any s w (hg.st hs)) ?_
  refine WL.p rfl rfl rfl (P.move rfl) ?_
  refine WL.split 14 rfl (fun hs14 => ?_) (fun hs14 => ?_)
  ·
    refine WL.p rfl rfl rfl (P.move rfl) ?_
    refine WL.p rfl rfl rfl (P.not_ rfl) ?_
    refine WL.p rfl rfl rfl (P.pickT rfl rfl) ?_
    refine WL.p rfl rfl rfl (P.assign rfl) ?_
    refine WL.nil_ ?_
    refine End.seq ?_
    refine WC.ret ?_
    refine End.ret1 rfl rfl ?_
    exact fun w' hs' => RetV.of (by rw [aliasN, hs14]; rfl) hs'
  ·
    refine WL.off rfl rfl ?_
    refine WL.off rfl rfl ?_
    refine WL.p rfl rfl rfl (P.pickF rfl rfl) ?_
    refine WL.p rfl rfl rfl (P.assign rfl) ?_
    refine WL.nil_ ?_
    refine End.seq ?_
    refine WC.ret ?_
    refine End.ret1 rfl rfl ?_
    exact fun w' hs' => RetV.of (by rw [aliasN, hs14]; rfl) hs'

set_option maxRecDepth 100000 in
theorem aliasOK_any (e : E) (va vg : Value) (w : World) (hg : Good w) :
    Calls Tryz.prog 206 #[.agg (e.cells va vg)] w (RetV w (.bool (aliasOK e))) := by
  refine enter Tryz.func206 rfl Tryz.ntmps206 rfl ?_
  refine WC.seq ?_
  refine WC.region ?_
  refine WL.box rfl rfl rfl (fun b1 => ?_)
  refine WL.p rfl rfl rfl (P.assign rfl) ?_
  refine WL.nil_ ?_
  refine End.seq ?_
  refine WC.seq ?_
  refine WC.region ?_
  refine WL.p rfl rfl rfl (P.fieldAddr fa_34_9 rfl) ?_
  refine WL.p rfl rfl rfl (P.loadO 0 Tryz.isAgg9 rfl rfl rfl) ?_
  refine WL.callv (ent_of Tryz.func76 rfl rfl) rfl rfl rfl (fun w hs => nameValid_any e.target w (hg.st hs)) ?_
  refine WL.p rfl rfl rfl (P.move rfl) ?_
  refine WL.split 6 rfl (fun hs6 => ?_) (fun hs6 => ?_)
  ·
    refine WL.p rfl rfl rfl (P.fieldAddr fa_34_9 rfl) ?_
    refine WL.p rfl rfl rfl (P.loadO 0 Tryz.isAgg9 rfl rfl rfl) ?_
    refine WL.p rfl rfl rfl (P.fieldAddr fa_34_1 rfl) ?_
    refine WL.p rfl rfl rfl (P.loadO 0 Tryz.isAgg9 rfl rfl rfl) ?_
    refine WL.p rfl rfl rfl (P.cmps rfl rfl rfl) ?_
    refine WL.p rfl rfl rfl (P.pickT rfl rfl) ?_
    refine WL.p rfl rfl rfl (P.assign rfl) ?_
    refine WL.nil_ ?_
    refine End.seq ?_
    refine WC.ret ?_
    refine End.ret1 rfl rfl ?_
    exact fun w' hs' => RetV.of (by rw [aliasOK, hs6]; rfl) hs'
  ·
    refine WL.off rfl rfl ?_
    refine WL.off rfl rfl ?_
    refine WL.off rfl rfl ?_
    refine WL.off rfl rfl ?_
    refine WL.off rfl rfl ?_
    refine WL.p rfl rfl rfl (P.pickF rfl rfl) ?_
    refine WL.p rfl rfl rfl (P.assign rfl) ?_
    refine WL.nil_ ?_
    refine End.seq ?_
    refine WC.ret ?_
    refine End.ret1 rfl rfl ?_
    exact fun w' hs' => RetV.of (by rw [aliasOK, hs6]; rfl) hs'

set_option maxRecDepth 100000 in
theorem catN_any (s : ByteArray) (w : World) (hg : Good w) :
    Calls Tryz.prog 207 #[.string s] w (RetV w (.bool (catN s))) := by
  refine enter Tryz.func207 rfl Tryz.ntmps207 rfl ?_
  refine WC.seq ?_
  refine WC.region ?_
  refine WL.p rfl rfl rfl (P.assign rfl) ?_
  refine WL.nil_ ?_
  refine End.seq ?_
  refine WC.seq ?_
  refine WC.region ?_
  refine WL.p rfl rfl rfl (P.move rfl) ?_
  refine WL.callv (ent_of Tryz.func76 rfl rfl) rfl rfl rfl (fun w hs => nameValid_any s w (hg.st hs)) ?_
  refine WL.p rfl rfl rfl (P.move rfl) ?_
  refine WL.split 5 rfl (fun hs5 => ?_) (fun hs5 => ?_)
  ·
    refine WL.p rfl rfl rfl (P.move rfl) ?_
    refine WL.callv (ent_of Tryz.func208 rfl rfl) rfl rfl rfl (fun w hs => count_one s w) ?_
    refine WL.p rfl rfl rfl (P.cmp rfl rfl rfl) ?_
    refine WL.p rfl rfl rfl (P.pickT rfl rfl) ?_
    refine WL.p rfl rfl rfl (P.assign rfl) ?_
    refine WL.nil_ ?_
    refine End.seq ?_
    refine WC.ret ?_
    refine End.ret1 rfl rfl ?_
    exact fun w' hs' => RetV.of (by rw [catN, hs5]; rfl) hs'
  ·
    refine WL.off rfl rfl ?_
    refine WL.off rfl rfl ?_
    refine WL.off rfl rfl ?_
    refine WL.p rfl rfl rfl (P.pickF rfl rfl) ?_
    refine WL.p rfl rfl rfl (P.assign rfl) ?_
    refine WL.nil_ ?_
    refine End.seq ?_
    refine WC.ret ?_
    refine End.ret1 rfl rfl ?_
    exact fun w' hs' => RetV.of (by rw [catN, hs5]; rfl) hs'

set_option maxRecDepth 100000 in
theorem catOK_any (e : E) (va vg : Value) (w : World) :
    Calls Tryz.prog 211 #[.agg (e.cells va vg)] w (RetV w (.bool (catOK e))) := by
  refine enter Tryz.func211 rfl Tryz.ntmps211 rfl ?_
  refine WC.seq ?_
  refine WC.region ?_
  refine WL.box rfl rfl rfl (fun b1 => ?_)
  refine WL.p rfl rfl rfl (P.assign rfl) ?_
  refine WL.nil_ ?_
  refine End.seq ?_
  refine WC.seq ?_
  refine WC.region ?_
  refine WL.p rfl rfl rfl (P.fieldAddr fa_34_10 rfl) ?_
  refine WL.p rfl rfl rfl (P.loadO 0 Tryz.isAgg3 rfl rfl rfl) ?_
  refine WL.row Tryz.underlying22 Tryz.sizeOf3 Tryz.zeroValue3 rfl rfl rfl rfl rfl rfl rfl rfl rfl (fun b5 => ?_)
  refine WL.callv (ent_of Tryz.func201 rfl rfl) rfl rfl rfl (fun w hs => within_any 1 15 _ _ [e.catalog] w (slI_row hs (j := 0) rfl rfl (by simp))) ?_
  refine WL.p rfl rfl rfl (P.assign rfl) ?_
  refine WL.nil_ ?_
  refine End.seq ?_
  refine WC.ret ?_
  refine End.ret1 rfl rfl ?_
  exact fun w' hs' => RetV.of rfl hs'

set_option maxRecDepth 100000 in
theorem alias_w (c q : Nat) (out : ByteArray) (cs : Array Value) (t : ByteArray) (w0 w : World) (H : List It) (hst : St w0 (cB c out none :: .blk q 34 cs :: H) w) (ho : out.size < 1000) (h29 : cs[29]? = some (.string t)) (ht : t.size < 4294900000) :
    Calls Tryz.prog 205 #[.pointer (some ⟨c, 0, none⟩), .pointer (some ⟨q, 0, none⟩)] w (Mo w0 (.tuple #[]) (cB c (out ++ encText t) none :: .blk q 34 cs :: H)) := by
  refine enterH Tryz.func205 rfl Tryz.ntmps205 rfl hst ?_
  refine WC.region ?_
  refine WL.p rfl rfl rfl (P.move rfl) ?_
  refine WL.p rfl rfl rfl (P.move rfl) ?_
  refine WL.p rfl rfl rfl (P.nilCheck rfl) ?_
  refine WL.p rfl rfl rfl (P.fieldAddr fa_34_9 rfl) ?_
  refine WL.callo (H' := _) (ent_of Tryz.func199 rfl rfl) rfl rfl rfl (fun w hs => text_w c out ⟨q, 29, none⟩ t w0 w _ hs (fun cs w hs => (cell_blk (hs.ok 1 _ rfl).2).trans h29) (by omega) (by omega)) ?_
  refine WL.nil_ ?_
  refine End.norm ?_
  refine End.ret0 rfl ?_
  exact fun w' hs' => Mo.of rfl rfl hs'

set_option maxRecDepth 100000 in
theorem alias_r (r c q : Nat) (x : Rd) (out : ByteArray) (cs : Array Value) (w0 w : World) (H : List It) (hst : St w0 (rdB r x :: cB c out (some ⟨r, 0, none⟩) :: .blk q 34 cs :: H) w) (hsz : x.1.size < 4294967296) (hcs : cs.size = 33) :
    Calls Tryz.prog 205 #[.pointer (some ⟨c, 0, none⟩), .pointer (some ⟨q, 0, none⟩)] w (Mo w0 (.tuple #[]) (rdB r (x.text 200).2 :: cB c out (some ⟨r, 0, none⟩) :: .blk q 34 (cs.setIfInBounds 29 (.string (x.text 200).1)) :: H)) := by
  refine enterH Tryz.func205 rfl Tryz.ntmps205 rfl hst ?_
  refine WC.region ?_
  refine WL.p rfl rfl rfl (P.move rfl) ?_
  refine WL.p rfl rfl rfl (P.move rfl) ?_
  refine WL.p rfl rfl rfl (P.nilCheck rfl) ?_
  refine WL.p rfl rfl rfl (P.fieldAddr fa_34_9 rfl) ?_
  refine WL.callo (H' := _) (ent_of Tryz.func199 rfl rfl) rfl rfl rfl (fun w hs => text_r r c q 34 29 x out cs w0 w _ hs hsz (by rw [hcs]; rfl)) ?_
  refine WL.nil_ ?_
  refine End.norm ?_
  refine End.ret0 rfl ?_
  exact fun w' hs' => Mo.of rfl rfl hs'

set_option maxRecDepth 100000 in
theorem cat_w (c q : Nat) (out : ByteArray) (cs : Array Value) (n : Int) (w0 w : World) (H : List It) (hst : St w0 (cB c out none :: .blk q 34 cs :: H) w) (ho : out.size < 1000) (h30 : cs[30]? = some (.int .i64 n)) (hn : 0 ≤ n ∧ n < 9223372036854775808) :
    Calls Tryz.prog 209 #[.pointer (some ⟨c, 0, none⟩), .pointer (some ⟨q, 0, none⟩)] w (Mo w0 (.tuple #[]) (cB c (out ++ strOfNums (encF 9 n)) none :: .blk q 34 cs :: H)) := by
  refine enterH Tryz.func209 rfl Tryz.ntmps209 rfl hst ?_
  refine WC.region ?_
  refine WL.p rfl rfl rfl (P.move rfl) ?_
  refine WL.p rfl rfl rfl (P.move rfl) ?_
  refine WL.p rfl rfl rfl (P.nilCheck rfl) ?_
  refine WL.p rfl rfl rfl (P.fieldAddr fa_34_10 rfl) ?_
  refine WL.callo (H' := _) (ent_of Tryz.func210 rfl rfl) rfl rfl rfl (fun w hs => number_w c out ⟨q, 30, none⟩ n w0 w _ hs (fun cs w hs => (cell_blk (hs.ok 1 _ rfl).2).trans h30) (by omega) hn) ?_
  refine WL.nil_ ?_
  refine End.norm ?_
  refine End.ret0 rfl ?_
  exact fun w' hs' => Mo.of rfl rfl hs'

set_option maxRecDepth 100000 in
theorem cat_r (r c q : Nat) (x : Rd) (out : ByteArray) (cs : Array Value) (w0 w : World) (H : List It) (hst : St w0 (rdB r x :: cB c out (some ⟨r, 0, none⟩) :: .blk q 34 cs :: H) w) (hsz : x.1.size < 4294967296) (hcs : cs.size = 33) :
    Calls Tryz.prog 209 #[.pointer (some ⟨c, 0, none⟩), .pointer (some ⟨q, 0, none⟩)] w (Mo w0 (.tuple #[]) (rdB r x.num.2 :: cB c out (some ⟨r, 0, none⟩) :: .blk q 34 (cs.setIfInBounds 30 (.int .i64 (clampN x.num.1))) :: H)) := by
  refine enterH Tryz.func209 rfl Tryz.ntmps209 rfl hst ?_
  refine WC.region ?_
  refine WL.p rfl rfl rfl (P.move rfl) ?_
  refine WL.p rfl rfl rfl (P.move rfl) ?_
  refine WL.p rfl rfl rfl (P.nilCheck rfl) ?_
  refine WL.p rfl rfl rfl (P.fieldAddr fa_34_10 rfl) ?_
  refine WL.callo (H' := _) (ent_of Tryz.func210 rfl rfl) rfl rfl rfl (fun w hs => number_r r c q 34 30 x out cs w0 w _ hs hsz (by rw [hcs]; rfl)) ?_
  refine WL.nil_ ?_
  refine End.norm ?_
  refine End.ret0 rfl ?_
  exact fun w' hs' => Mo.of rfl rfl hs'

def ali : KF where
  kind := 2
  L := 65
  N := 203
  g := 205
  V := 206
  nm := aliasN
  ok := aliasOK
  out := fun out e => out ++ encText e.target
  rd := fun e x => ({ e with target := (x.text 200).1 }, (x.text 200).2)
  it := fun _ _ => .nil
  va := fun _ _ => vnil
  vg := fun _ _ => vnil
theorem aliasOK_lim {e : E} (h : aliasOK e = true) : e.target.size ≤ 31 := by
  unfold aliasOK at h
  rw [Bool.and_eq_true] at h
  exact name_size h.1
theorem ali_law : ali.Law where
  entN := ent_of Tryz.func203 rfl rfl
  entg := ent_of Tryz.func205 rfl rfl
  entV := ent_of Tryz.func206 rfl rfl
  form := ⟨2, rfl⟩
  name s w hg hsz := aliasN_any s w hg hsz
  okL e va vg w hg ha := aliasOK_any e va vg w hg
  size e out h := by
    have hl := aliasOK_lim h
    have h3 := encText_size e.target
    show (out ++ encText e.target).size < _
    rw [size_append]
    omega
  write e va vg w0 h ha := fun c q out H w ho hs => by
    have hl := aliasOK_lim h
    exact alias_w c q out _ e.target w0 w H hs ho rfl (by omega)
  read e x hal hgr hsz := fun r c q out w0 H w hs =>
    (alias_r r c q x out _ w0 w H hs hsz rfl).mono fun en w' h => ⟨0, h.1, h.2.nil3⟩
  at_ s j e e0 x H w0 w he hal hgr hs hj := by
    subst he
    exact entNil hal hgr
  keep e x := ⟨rfl, rfl⟩
  letter := by decide
  one s e := ⟨rfl, rfl⟩
def cat : KF where
  kind := 3
  L := 67
  N := 207
  g := 209
  V := 211
  nm := catN
  ok := catOK
  out := fun out e => out ++ strOfNums (encF 9 e.catalog)
  rd := fun e x => ({ e with catalog := clampN x.num.1 }, x.num.2)
  it := fun _ _ => .nil
  va := fun _ _ => vnil
  vg := fun _ _ => vnil
theorem cat_law : cat.Law where
  entN := ent_of Tryz.func207 rfl rfl
  entg := ent_of Tryz.func209 rfl rfl
  entV := ent_of Tryz.func211 rfl rfl
  form := ⟨3, rfl⟩
  name s w hg hsz := catN_any s w hg
  okL e va vg w hg ha := catOK_any e va vg w
  size e out h := by
    have h3 := encF_len 9 e.catalog
    show (out ++ strOfNums (encF 9 e.catalog)).size < _
    rw [size_append, strOfNums_size]
    omega
  write e va vg w0 h ha := fun c q out H w ho hs => by
    have hl := inB_one (show inB 1 15 [e.catalog] = true from h)
    exact cat_w c q out _ e.catalog w0 w H hs ho rfl (by omega)
  read e x hal hgr hsz := fun r c q out w0 H w hs =>
    (cat_r r c q x out _ w0 w H hs hsz rfl).mono fun en w' h => ⟨0, h.1, h.2.nil3⟩
  at_ s j e e0 x H w0 w he hal hgr hs hj := by
    subst he
    exact entNil hal hgr
  keep e x := ⟨rfl, rfl⟩
  letter := by decide
  one s e := ⟨rfl, rfl⟩

end Go.Proofs.YtlkkiimmangplaaGreatDoor

/- Keys, records. -/
namespace Go.Proofs.YtlkkiimmangplaaGreatDoor
open Go.RowKit
set_option linter.unusedVariables false
set_option linter.unusedSimpArgs false

def blanks (n : Nat) : ByteArray := ⟨(Lib.repeatL [32] n).toArray⟩
theorem blanks_any (n : Nat) (w : World) (hn : n ≤ 1000) : Calls Tryz.prog 61 #[.string ⟨#[32]⟩, .int .i64 (n : Int)] w (RetV w (.string (blanks n))) :=
  (Tryz.strings_Repeat ⟨#[32]⟩ n w (by omega) (by show 1 * n ≤ _; omega)).mono fun e w' ⟨h1, h2⟩ => ⟨h1, ⟨h2, fun _ _ h => by simp at h, fun _ _ _ _ h => by simp at h⟩⟩
theorem blanks_size (n : Nat) : (blanks n).size = n := by
  show (Lib.repeatL [32] n).toArray.size = n
  rw [List.size_toArray, Lib.repeatL_length]
  simp
/-- The key of an entry. -/
def KF.key (F : KF) (s : ByteArray) : ByteArray := if 31 < s.size then bempty else strOfNums [F.L] ++ s ++ blanks (31 - s.size)

set_option maxRecDepth 100000 in
theorem key_any (F : KF) (hF : F.Law) (nm : ByteArray) (w : World) (hsz : nm.size < 4294967281) (hL : 0 ≤ F.L ∧ F.L < 256) :
    Calls Tryz.prog 49 #[.int .i64 F.kind, .string nm] w (RetV w (.string (F.key nm))) := by
  obtain ⟨fi, hfi⟩ := hF.form
  refine enter Tryz.func49 rfl Tryz.ntmps49 rfl ?_
  refine WC.seq ?_
  refine WC.region ?_
  refine WL.p rfl rfl rfl (P.assign rfl) ?_
  refine WL.nil_ ?_
  refine End.seq ?_
  refine WC.seq ?_
  refine WC.region ?_
  refine WL.callx (ent_of Tryz.func114 rfl rfl) rfl rfl rfl (fun w hs => forms_any w) (fun bm _ => ?_)
  refine WL.p rfl rfl rfl (P.move rfl) ?_
  refine WL.p rfl rfl rfl (P.lookup2 0 (key := .int .i64 F.kind) (v := .agg F.form) (i := fi) Tryz.underlying130 Tryz.underlying3 (by simp [MapKept.IsKey]) rfl rfl rfl hfi) ?_
  refine WL.p rfl rfl rfl (P.move rfl) ?_
  refine WL.p rfl rfl rfl (P.extract rfl rfl) ?_
  refine WL.p rfl rfl rfl (P.extract rfl rfl) ?_
  refine WL.alloc Tryz.zeroValue128 rfl rfl (fun b5 => ?_)
  refine WL.storeW 0 Tryz.sizeOf128 rfl rfl rfl rfl rfl rfl rfl ?_
  refine WL.p rfl rfl rfl (P.assign rfl) ?_
  refine WL.nil_ ?_
  refine End.seq ?_
  refine WC.seq ?_
  refine WC.seq ?_
  refine WC.region ?_
  refine WL.p rfl rfl rfl (P.move rfl) ?_
  refine WL.p rfl rfl rfl (P.not_ rfl) ?_
  refine WL.p rfl rfl rfl (P.move rfl) ?_
  refine WL.split 15 rfl (fun hs15 => ?_) (fun hs15 => ?_)
  ·
    try simp only [decide_eq_true_eq, decide_eq_false_iff_not, beq_iff_eq, beq_eq_false_iff_ne, bne_iff_ne, bne_eq_false_iff_eq, Bool.not_eq_true', Bool.not_eq_false', ne_eq, Int.not_lt, Int.not_le] at hs15
    cases hs15
  ·
    try simp only [decide_eq_true_eq, decide_eq_false_iff_not, beq_iff_eq, beq_eq_false_iff_ne, bne_iff_ne, bne_eq_false_iff_eq, Bool.not_eq_true', Bool.not_eq_false', ne_eq, Int.not_lt, Int.not_le] at hs15
    refine WL.p rfl rfl rfl (P.move rfl) ?_
    refine WL.p rfl rfl rfl (P.lenS Tryz.underlying9 rfl) ?_
    refine WL.p rfl rfl rfl (P.cmp rfl rfl rfl) ?_
    refine WL.p rfl rfl rfl (P.pickF rfl rfl) ?_
    refine WL.nil_ ?_
    refine End.seq ?_
    refine WC.cond rfl (fun hc19 => ?_) (fun hc19 => ?_)
    ·
      try simp only [decide_eq_true_eq, decide_eq_false_iff_not, beq_iff_eq, beq_eq_false_iff_ne, bne_iff_ne, bne_eq_false_iff_eq, Bool.not_eq_true', Bool.not_eq_false', ne_eq, Int.not_lt, Int.not_le] at hc19
      refine WC.seq ?_
      refine WC.region ?_
      refine WL.p rfl rfl rfl (P.assign rfl) ?_
      refine WL.nil_ ?_
      refine End.seq ?_
      refine WC.ret ?_
      refine End.thenR ?_
      refine End.ret1 rfl rfl ?_
      exact fun w' hs' => RetV.of (by rw [KF.key, if_pos (by omega)]) hs'
    ·
      try simp only [decide_eq_true_eq, decide_eq_false_iff_not, beq_iff_eq, beq_eq_false_iff_ne, bne_iff_ne, bne_eq_false_iff_eq, Bool.not_eq_true', Bool.not_eq_false', ne_eq, Int.not_lt, Int.not_le] at hc19
      refine WC.skip ?_
      refine End.seq ?_
      refine WC.seq ?_
      refine WC.nil1 ?_
      apply WC.draws (al := [2]) (vs := [_, _, fun s => .slice (some ⟨(s 2).1, 0, none⟩) 1 1, _, _, _, _, _, _, _, _, _]) (Hs := fun v HH b s => (bnew (b 2) (It.blk (s 2).1 5 #[.int .u8 F.L]) HH 0)) (by kernel_rfl) (by kernel_rfl) (by kernel_rfl)
      case steps =>
        refine Stps.cons (Stp.p (fun b s hd => ⟨_, ⟨rfl, P.fieldAddr fa_128_0 rfl⟩, rfl, rfl⟩)) ?_
        refine Stps.cons (Stp.p (fun b s hd => ⟨_, ⟨rfl, P.loadO 1 Tryz.isAgg5 rfl rfl rfl⟩, rfl, rfl⟩)) ?_
        refine Stps.cons (Stp.row 0 rfl (fun b s => ⟨rfl, _, _, rfl, fun w => by refine run_rowL Tryz.underlying47 Tryz.sizeOf5 Tryz.zeroValue5 ?_ ?_ ?_ ?_ ?_ ?_ w <;> rfl, fun q => ⟨rfl, _, rfl, fun hb => rfl⟩⟩)) ?_
        refine Stps.cons (Stp.on [2] (by kernel_rfl) (Stp.p (fun b s' hd => ⟨_, ⟨rfl, P.bytesOwn 0 (xs := [F.L]) Tryz.underlying47 Tryz.underlying5 Tryz.underlying9 rfl rfl rfl (fun i hi => by match i, hi with | 0, _ => rfl)⟩, rfl, rfl⟩))) ?_
        refine Stps.cons (Stp.p (fun b s hd => ⟨_, ⟨rfl, P.move rfl⟩, rfl, rfl⟩)) ?_
        refine Stps.cons (Stp.p (fun b s hd => ⟨_, ⟨rfl, P.cat rfl rfl (by rw [strOfNums_size]; simp; omega)⟩, rfl, rfl⟩)) ?_
        refine Stps.cons (Stp.p (fun b s hd => ⟨_, ⟨rfl, P.move rfl⟩, rfl, rfl⟩)) ?_
        refine Stps.cons (Stp.p (fun b s hd => ⟨_, ⟨rfl, P.lenS Tryz.underlying9 rfl⟩, rfl, rfl⟩)) ?_
        refine Stps.cons (Stp.p (fun b s hd => ⟨_, ⟨rfl, P.ari64 rfl rfl rfl (by omega)⟩, rfl, rfl⟩)) ?_
        refine Stps.cons (Stp.callv (ent_of Tryz.func61 rfl rfl) (fun b s hd => ⟨_, _, rfl, rfl, fun w hs => by have := blanks_any (31 - nm.size) w (by omega); rwa [show ((31 - nm.size : Nat) : Int) = 31 - (nm.size : Int) by omega] at this, rfl, rfl⟩)) ?_
        refine Stps.cons (Stp.p (fun b s hd => ⟨_, ⟨rfl, P.cat rfl rfl (by rw [size_append, strOfNums_size, blanks_size]; simp; omega)⟩, rfl, rfl⟩)) ?_
        refine Stps.cons (Stp.p (fun b s hd => ⟨_, ⟨rfl, P.assign rfl⟩, rfl, rfl⟩)) ?_
        exact Stps.nil
      case h0 => exact fun s => rfl
      case agree => exact AgrAll.cons (AgrL.no (fun s x => rfl) (AgrL.no (fun s x => rfl) (AgrL.yes (by kernel_rfl) (AgrL.yes (by kernel_rfl) (AgrL.no (fun s x => rfl) (AgrL.yes (by kernel_rfl) (AgrL.no (fun s x => rfl) (AgrL.no (fun s x => rfl) (AgrL.no (fun s x => rfl) (AgrL.no (fun s x => rfl) (AgrL.yes (by kernel_rfl) (AgrL.yes (by kernel_rfl) (AgrL.nil))))))))))))) (AgrAll.nil)
      intro s4
      refine End.shape (ρ' := [(0, _), (1, _), (4, _), (5, _), (6, _), (7, _), (8, _), (9, _), (10, _), (11, _), (12, _), (13, _), (14, _), (15, _), (16, _), (17, _), (18, _), (19, _), (20, _), (21, _), (22, _), (23, _), (24, _), (25, _), (26, _), (27, _), (28, _), (29, _), (30, _)]) (H' := [_, _, _]) (Env.sub_cons rfl (Env.sub_cons rfl (Env.sub_cons rfl (Env.sub_cons rfl (Env.sub_cons rfl (Env.sub_cons rfl (Env.sub_cons rfl (Env.sub_cons rfl (Env.sub_cons rfl (Env.sub_cons rfl (Env.sub_cons rfl (Env.sub_cons rfl (Env.sub_cons rfl (Env.sub_cons rfl (Env.sub_cons rfl (Env.sub_cons rfl (Env.sub_cons rfl (Env.sub_cons rfl (Env.sub_cons rfl (Env.sub_cons rfl (Env.sub_cons rfl (Env.sub_cons rfl (Env.sub_cons rfl (Env.sub_cons rfl (Env.sub_cons rfl (Env.sub_cons rfl (Env.sub_cons rfl (Env.sub_cons rfl (Env.sub_cons rfl (Env.sub_nil)))))))))))))))))))))))))))))) rfl ?_
      refine End.seq ?_
      refine WC.ret ?_
      refine End.ret1 rfl rfl ?_
      exact fun w' hs' => RetV.of (by rw [KF.key, if_neg (by omega)]; rfl) hs'

set_option maxRecDepth 100000 in
theorem key_none (k : Int) (nm : ByteArray) (w : World) (hk : Instr.findNow (.int .i64) (.int .i64 k) formsEs.toList 0 = some none) :
    Calls Tryz.prog 49 #[.int .i64 k, .string nm] w (RetV w (.string ⟨#[]⟩)) := by
  refine enter Tryz.func49 rfl Tryz.ntmps49 rfl ?_
  refine WC.seq ?_
  refine WC.region ?_
  refine WL.p rfl rfl rfl (P.assign rfl) ?_
  refine WL.nil_ ?_
  refine End.seq ?_
  refine WC.seq ?_
  refine WC.region ?_
  refine WL.callx (ent_of Tryz.func114 rfl rfl) rfl rfl rfl (fun w hs => forms_any w) (fun bm _ => ?_)
  refine WL.p rfl rfl rfl (P.move rfl) ?_
  refine WL.p rfl rfl rfl (P.lookup2n 0 (key := .int .i64 k) Tryz.underlying130 Tryz.underlying3 (by simp [MapKept.IsKey]) Tryz.zeroValue128 rfl rfl rfl hk) ?_
  refine WL.p rfl rfl rfl (P.move rfl) ?_
  refine WL.p rfl rfl rfl (P.extract rfl rfl) ?_
  refine WL.p rfl rfl rfl (P.extract rfl rfl) ?_
  refine WL.alloc Tryz.zeroValue128 rfl rfl (fun b5 => ?_)
  refine WL.storeW 0 Tryz.sizeOf128 rfl rfl rfl rfl rfl rfl rfl ?_
  refine WL.p rfl rfl rfl (P.assign rfl) ?_
  refine WL.nil_ ?_
  refine End.seq ?_
  refine WC.seq ?_
  refine WC.seq ?_
  refine WC.region ?_
  refine WL.p rfl rfl rfl (P.move rfl) ?_
  refine WL.p rfl rfl rfl (P.not_ rfl) ?_
  refine WL.p rfl rfl rfl (P.move rfl) ?_
  refine WL.split 15 rfl (fun hs15 => ?_) (fun hs15 => ?_)
  ·
    try simp only [decide_eq_true_eq, decide_eq_false_iff_not, beq_iff_eq, beq_eq_false_iff_ne, bne_iff_ne, bne_eq_false_iff_eq, Bool.not_eq_true', Bool.not_eq_false', ne_eq, Int.not_lt, Int.not_le] at hs15
    refine WL.off rfl rfl ?_
    refine WL.off rfl rfl ?_
    refine WL.off rfl rfl ?_
    refine WL.p rfl rfl rfl (P.pickT rfl rfl) ?_
    refine WL.nil_ ?_
    refine End.seq ?_
    refine WC.condT rfl ?_
    refine WC.seq ?_
    refine WC.region ?_
    refine WL.p rfl rfl rfl (P.assign rfl) ?_
    refine WL.nil_ ?_
    refine End.seq ?_
    refine WC.ret ?_
    refine End.thenR ?_
    refine End.ret1 rfl rfl ?_
    exact fun w' hs' => RetV.of rfl hs'
  ·
    try simp only [decide_eq_true_eq, decide_eq_false_iff_not, beq_iff_eq, beq_eq_false_iff_ne, bne_iff_ne, bne_eq_false_iff_eq, Bool.not_eq_true', Bool.not_eq_false', ne_eq, Int.not_lt, Int.not_le] at hs15
    cases hs15

section
variable {w0 : World} {n : Nat} {o : Oper} {ρ : Env} {H : List It}
variable {d : Nat} {ty t t' : TypeId} {pos : String} {af : Array Edge} {g : Option (Nat × Bool)} {x y z : Operand} {v u : Value}
/-- A look with one result, at a key that is there. -/
theorem P.lookup1 (j : Nat) {kt et : TypeId} {kd : TypeDesc} {b c i : Nat} {es : Array MapEntry} {key : Value} (hm : Tryz.prog.underlying t = some (.map kt et)) (hk : Tryz.prog.underlying kt = some kd) (hkey : MapKept.IsKey kd key) (hx : ev ρ x = some (.map (some b))) (hy : ev ρ y = some key) (hj : H[j]? = some (.map b es c))
    (hf : Instr.findNow kd key es.toList 0 = some (some (i, v))) : Pure w0 n ρ H ⟨some d, .lookup t x y false, ty, pos, af, g⟩ v :=
  fun a w hfit hs => by
    have hb := (hs.ok j _ hj).2
    have hc : ∀ e, (Instr.checkKey e 10000 kt key).run Tryz.prog w = .ok () w := fun e => MapKept.run_checkKey (k := key) hk hkey e 9999
    simp [execOp, hfit.eval hx, hfit.eval hy, Instr.lookup, run_underlying hm, MapKept.run_getObj_map hb, hc, MapKept.run_findKey hk hf, Result.andThen]
end
theorem KF.valid_ok {F : KF} {e : E} (h : F.valid e = true) : F.nm e.name = true ∧ F.ok e = true := by
  unfold KF.valid at h
  rw [Bool.and_eq_true, Bool.and_eq_true] at h
  exact ⟨h.1, h.2.1⟩
/-- The record of an entry. -/
def KF.record (F : KF) (e : E) : ByteArray := F.key e.name ++ F.out bempty e
theorem KF.key_size (F : KF) (s : ByteArray) : (F.key s).size ≤ 32 := by
  unfold KF.key
  split
  · decide
  · rw [size_append, size_append, strOfNums_size, blanks_size]; simp; omega

set_option maxRecDepth 100000 in
theorem encode_any (F : KF) (hF : F.Law) (e : E) (va vg : Value) (w : World) (hg : Good w) (hk : e.kind = F.kind) (ha : EntAt w e va vg) (hsz : e.name.size < 4294967281) (hL : 0 ≤ F.L ∧ F.L < 256) :
    Calls Tryz.prog 54 #[.agg (e.cells va vg)] w (RetV w (.tuple #[.string (if F.valid e = true then F.record e else ⟨#[]⟩), .int .i64 (if F.valid e = true then 0 else 1)])) := by
  have ha0 := ha
  obtain ⟨fi, hfi⟩ := hF.form
  obtain ⟨⟨A1, c1, rfl, hc1, hr1⟩, ⟨A2, c2, rfl, hc2, hr2⟩⟩ := ha
  refine enter Tryz.func54 rfl Tryz.ntmps54 rfl ?_
  refine WC.seq ?_
  refine WC.region ?_
  refine WL.box rfl rfl rfl (fun b1 => ?_)
  refine WL.p rfl rfl rfl (P.assign rfl) ?_
  refine WL.p rfl rfl rfl (P.assign rfl) ?_
  refine WL.nil_ ?_
  refine End.seq ?_
  refine WC.seq ?_
  refine WC.seq ?_
  refine WC.region ?_
  refine WL.p rfl rfl rfl (P.loadW 0 Tryz.isAgg34 Tryz.sizeOf34 rfl rfl rfl) ?_
  refine WL.callv (ent_of Tryz.func47 rfl rfl) rfl rfl rfl (fun w hs => valid_any F hF e _ _ w (hg.st hs) hk (ha0.st hs) hsz) ?_
  refine WL.p rfl rfl rfl (P.not_ rfl) ?_
  refine WL.nil_ ?_
  refine End.seq ?_
  refine WC.cond rfl (fun hc6 => ?_) (fun hc6 => ?_)
  ·
    try simp only [decide_eq_true_eq, decide_eq_false_iff_not, beq_iff_eq, beq_eq_false_iff_ne, bne_iff_ne, bne_eq_false_iff_eq, Bool.not_eq_true', Bool.not_eq_false', ne_eq, Int.not_lt, Int.not_le] at hc6
    refine WC.seq ?_
    refine WC.region ?_
    refine WL.p rfl rfl rfl (P.assign rfl) ?_
    refine WL.p rfl rfl rfl (P.assign rfl) ?_
    refine WL.nil_ ?_
    refine End.seq ?_
    refine WC.ret ?_
    refine End.thenR ?_
    refine End.ret2 rfl rfl rfl ?_
    exact fun w' hs' => RetV.of (by rw [if_neg (by rw [hc6]; simp), if_neg (by rw [hc6]; simp)]) hs'
  ·
    try simp only [decide_eq_true_eq, decide_eq_false_iff_not, beq_iff_eq, beq_eq_false_iff_ne, bne_iff_ne, bne_eq_false_iff_eq, Bool.not_eq_true', Bool.not_eq_false', ne_eq, Int.not_lt, Int.not_le] at hc6
    have hvo := KF.valid_ok hc6
    have hz1 := F.key_size e.name
    have hz2 := hF.size e bempty hvo.2
    have hz3 : bempty.size = 0 := rfl
    refine WC.skip ?_
    refine End.seq ?_
    refine WC.seq ?_
    refine WC.nil1 ?_
    apply WC.draws (al := [5]) (vs := [_, _, _, _, _, fun s => .map (some (s 5).1), _, _, fun _ => .agg F.form, _, _, _, _, _]) (Hs := fun v HH b s => (bnew (b 5) (It.map (s 5).1 formsEs 5) HH 0)) (by kernel_rfl) (by kernel_rfl) (by kernel_rfl)
    case steps =>
      refine Stps.cons (Stp.p (fun b s hd => ⟨_, ⟨rfl, P.fieldAddr fa_34_0 rfl⟩, rfl, rfl⟩)) ?_
      refine Stps.cons (Stp.p (fun b s hd => ⟨_, ⟨rfl, P.loadO 1 Tryz.isAgg3 rfl rfl rfl⟩, rfl, rfl⟩)) ?_
      refine Stps.cons (Stp.p (fun b s hd => ⟨_, ⟨rfl, P.fieldAddr fa_34_1 rfl⟩, rfl, rfl⟩)) ?_
      refine Stps.cons (Stp.p (fun b s hd => ⟨_, ⟨rfl, P.loadO 1 Tryz.isAgg9 rfl rfl rfl⟩, rfl, rfl⟩)) ?_
      refine Stps.cons (Stp.callv (ent_of Tryz.func49 rfl rfl) (fun b s hd => ⟨_, _, rfl, rfl, fun w hs => by have := key_any F hF e.name w hsz hL; rw [← hk] at this; exact this, rfl, rfl⟩)) ?_
      refine Stps.cons (Stp.callx 0 (ent_of Tryz.func114 rfl rfl) rfl (fun b s hb hd => ⟨_, _, _, _, rfl, rfl, fun w hs => forms_any w, fun q => rfl, ⟨_, rfl⟩, fun q => rfl⟩)) ?_
      refine Stps.cons (Stp.p (fun b s hd => ⟨_, ⟨rfl, P.fieldAddr fa_34_0 rfl⟩, rfl, rfl⟩)) ?_
      refine Stps.cons (Stp.p (fun b s hd => ⟨_, ⟨rfl, P.loadO 1 Tryz.isAgg3 rfl rfl rfl⟩, rfl, rfl⟩)) ?_
      refine Stps.cons (Stp.on [5] (by kernel_rfl) (Stp.p (fun b s hd => ⟨_, ⟨rfl, P.lookup1 0 (key := .int .i64 e.kind) (v := .agg F.form) (i := fi) Tryz.underlying130 Tryz.underlying3 (by simp [MapKept.IsKey]) rfl rfl rfl (by rw [hk]; exact hfi)⟩, rfl, rfl⟩))) ?_
      refine Stps.cons (Stp.p (fun b s hd => ⟨_, ⟨rfl, P.loadW 1 Tryz.isAgg34 Tryz.sizeOf34 rfl rfl rfl⟩, rfl, rfl⟩)) ?_
      refine Stps.cons (Stp.callv (ent_of Tryz.func140 rfl rfl) (fun b s hd => ⟨_, _, rfl, rfl, fun w hs => body_any F hF e _ _ w hvo.2 (ha0.st hs), rfl, rfl⟩)) ?_
      refine Stps.cons (Stp.p (fun b s hd => ⟨_, ⟨rfl, P.cat rfl rfl (by omega)⟩, rfl, rfl⟩)) ?_
      refine Stps.cons (Stp.p (fun b s hd => ⟨_, ⟨rfl, P.assign rfl⟩, rfl, rfl⟩)) ?_
      refine Stps.cons (Stp.p (fun b s hd => ⟨_, ⟨rfl, P.assign rfl⟩, rfl, rfl⟩)) ?_
      exact Stps.nil
    case h0 => exact fun s => rfl
    case agree => exact AgrAll.cons (AgrL.no (fun s x => rfl) (AgrL.no (fun s x => rfl) (AgrL.no (fun s x => rfl) (AgrL.no (fun s x => rfl) (AgrL.no (fun s x => rfl) (AgrL.yes (by kernel_rfl) (AgrL.no (fun s x => rfl) (AgrL.no (fun s x => rfl) (AgrL.yes (by kernel_rfl) (AgrL.no (fun s x => rfl) (AgrL.yes (by kernel_rfl) (AgrL.yes (by kernel_rfl) (AgrL.yes (by kernel_rfl) (AgrL.yes (by kernel_rfl) (AgrL.nil))))))))))))))) (AgrAll.nil)
    intro s3
    refine End.shape (ρ' := [(0, _), (1, _), (2, _), (3, _), (4, _), (5, _), (6, _), (7, _), (8, _), (9, _), (10, _), (11, _), (12, _), (13, _), (14, _), (15, _), (16, _), (17, _), (18, _)]) (H' := [_, _]) (Env.sub_cons rfl (Env.sub_cons rfl (Env.sub_cons rfl (Env.sub_cons rfl (Env.sub_cons rfl (Env.sub_cons rfl (Env.sub_cons rfl (Env.sub_cons rfl (Env.sub_cons rfl (Env.sub_cons rfl (Env.sub_cons rfl (Env.sub_cons rfl (Env.sub_cons rfl (Env.sub_cons rfl (Env.sub_cons rfl (Env.sub_cons rfl (Env.sub_cons rfl (Env.sub_cons rfl (Env.sub_cons rfl (Env.sub_nil)))))))))))))))))))) rfl ?_
    refine End.seq ?_
    refine WC.ret ?_
    refine End.ret2 rfl rfl rfl ?_
    exact fun w' hs' => RetV.of (by rw [if_pos hc6, if_pos hc6]; rfl) hs'

set_option maxRecDepth 100000 in
theorem encode_none (e : E) (va vg : Value) (w : World) (hk : Instr.findNow (.int .i64) (.int .i64 e.kind) formsEs.toList 0 = some none) :
    Calls Tryz.prog 54 #[.agg (e.cells va vg)] w (RetV w (.tuple #[.string ⟨#[]⟩, .int .i64 1])) := by
  refine enter Tryz.func54 rfl Tryz.ntmps54 rfl ?_
  refine WC.seq ?_
  refine WC.region ?_
  refine WL.box rfl rfl rfl (fun b1 => ?_)
  refine WL.p rfl rfl rfl (P.assign rfl) ?_
  refine WL.p rfl rfl rfl (P.assign rfl) ?_
  refine WL.nil_ ?_
  refine End.seq ?_
  refine WC.seq ?_
  refine WC.seq ?_
  refine WC.region ?_
  refine WL.p rfl rfl rfl (P.loadW 0 Tryz.isAgg34 Tryz.sizeOf34 rfl rfl rfl) ?_
  refine WL.callv (ent_of Tryz.func47 rfl rfl) rfl rfl rfl (fun w hs => valid_none e _ _ w hk) ?_
  refine WL.p rfl rfl rfl (P.not_ rfl) ?_
  refine WL.nil_ ?_
  refine End.seq ?_
  refine WC.cond rfl (fun hc6 => ?_) (fun hc6 => ?_)
  ·
    try simp only [decide_eq_true_eq, decide_eq_false_iff_not, beq_iff_eq, beq_eq_false_iff_ne, bne_iff_ne, bne_eq_false_iff_eq, Bool.not_eq_true', Bool.not_eq_false', ne_eq, Int.not_lt, Int.not_le] at hc6
    refine WC.seq ?_
    refine WC.region ?_
    refine WL.p rfl rfl rfl (P.assign rfl) ?_
    refine WL.p rfl rfl rfl (P.assign rfl) ?_
    refine WL.nil_ ?_
    refine End.seq ?_
    refine WC.ret ?_
    refine End.thenR ?_
    refine End.ret2 rfl rfl rfl ?_
    exact fun w' hs' => RetV.of rfl hs'
  ·
    try simp only [decide_eq_true_eq, decide_eq_false_iff_not, beq_iff_eq, beq_eq_false_iff_ne, bne_iff_ne, bne_eq_false_iff_eq, Bool.not_eq_true', Bool.not_eq_false', ne_eq, Int.not_lt, Int.not_le] at hc6
    cases hc6

end Go.Proofs.YtlkkiimmangplaaGreatDoor

/- Records read back. -/
namespace Go.Proofs.YtlkkiimmangplaaGreatDoor
open Go.RowKit
set_option linter.unusedVariables false
set_option linter.unusedSimpArgs false

/-- The five kinds. -/
structure Fam (K : Nat → KF) : Prop where
  law : ∀ i : Nat, i < 5 → (K i).Law
  kind : ∀ i : Nat, i < 5 → (K i).kind = (i : Int)
  ent : ∀ i : Nat, i < 5 → formsEs.toList[i]? = some ⟨.int .i64 (i : Int), .agg (K i).form, i⟩
theorem Fam.mem {K : Nat → KF} (hK : Fam K) {e : MapEntry} (he : e ∈ formsEs.toList) : ∃ i : Nat, i < 5 ∧ e = ⟨.int .i64 (i : Int), .agg (K i).form, i⟩ := by
  obtain ⟨i, hi⟩ := List.mem_iff_getElem?.1 he
  have hlt : i < 5 := (List.getElem?_eq_some_iff.1 hi).1
  rw [hK.ent i hlt] at hi
  cases hi
  exact ⟨i, hlt, rfl⟩
theorem Fam.all {K : Nat → KF} (hK : Fam K) {i : Nat} (hi : i < 5) : (⟨.int .i64 (i : Int), .agg (K i).form, i⟩ : MapEntry) ∈ formsEs.toList := List.mem_of_getElem? (hK.ent i hi)
def trimR (s : ByteArray) : ByteArray := ⟨(Lib.trimRightB s.data.toList 32).toArray⟩
theorem trim_any (s : ByteArray) (w : World) (h : s.size < 4294967281) : Calls Tryz.prog 142 #[.string s, .string ⟨#[32]⟩] w (RetV w (.string (trimR s))) :=
  (Tryz.strings_TrimRight_one s 32 (by decide) w (by omega)).mono fun e w' ⟨h1, h2⟩ => ⟨h1, by rw [h2]; exact St.refl w⟩
theorem dropWhile_len {α : Type} (p : α → Bool) : ∀ l : List α, (l.dropWhile p).length ≤ l.length
  | [] => Nat.le_refl _
  | x :: r => by
    rw [List.dropWhile_cons]
    split
    · exact Nat.le_trans (dropWhile_len p r) (Nat.le_succ _)
    · exact Nat.le_refl _
theorem trimR_size (s : ByteArray) : (trimR s).size ≤ s.size := by
  show (Lib.trimRightB s.data.toList 32).toArray.size ≤ s.data.size
  unfold Lib.trimRightB
  have := dropWhile_len (fun x => x == (32 : UInt8)) s.data.toList.reverse
  simpa using this
def letterOf (s : ByteArray) : Int := ((s.data.toList[(0 : Int).toNat]?.getD 0).toNat : Int)
/-- What a record reads as, at one kind. -/
def dE0 (i : Nat) (s : ByteArray) : E := { E.zero with kind := (i : Int), name := trimR (s.extract 1 32) }
def dE (K : Nat → KF) (s : ByteArray) (i : Nat) : E × Rd := (K i).rd (dE0 i s) (s.extract 32 s.size, 0)
def decI (K : Nat → KF) (s : ByteArray) (i : Nat) : Bool := ((K i).L == letterOf s) && (((dE K s i).2.end_ == 0) && (((if (K i).valid (dE K s i).1 = true then (0 : Int) else 1) == 0) && ((if (K i).valid (dE K s i).1 = true then (K i).record (dE K s i).1 else ⟨#[]⟩).toList == s.toList)))
def unseen (l : List Nat) : Nat := (if 0 ∈ l then 0 else 1) + (if 1 ∈ l then 0 else 1) + (if 2 ∈ l then 0 else 1) + (if 3 ∈ l then 0 else 1) + (if 4 ∈ l then 0 else 1)
theorem unseen_lt {l : List Nat} {i : Nat} (hi : i < 5) (h : ¬ i ∈ l) : unseen (l ++ [i]) < unseen l := by
  have key : ∀ j, (if j ∈ l ++ [i] then 0 else 1) ≤ (if j ∈ l then 0 else 1) := fun j => by
    by_cases hj : j ∈ l
    · rw [if_pos (List.mem_append_left _ hj)]; exact Nat.zero_le _
    · rw [if_neg hj]; split <;> omega
  have ki : (if i ∈ l ++ [i] then 0 else 1) < (if i ∈ l then 0 else 1) := by
    rw [if_pos (List.mem_append_right _ (List.mem_singleton.2 rfl)), if_neg h]; decide
  have h0 := key 0; have h1 := key 1; have h2 := key 2; have h3 := key 3; have h4 := key 4
  unfold unseen
  rcases (by omega : i = 0 ∨ i = 1 ∨ i = 2 ∨ i = 3 ∨ i = 4) with rfl | rfl | rfl | rfl | rfl <;> omega
theorem seen_push {K : Nat → KF} {s : ByteArray} {seen : Array Nat} {i : Nat} (h : ∀ j, j < 5 → j ∈ seen.toList → decI K s j = false) (hi : decI K s i = false) : ∀ j, j < 5 → j ∈ (seen.push i).toList → decI K s j = false := fun j hj hm => by
  rw [Array.toList_push, List.mem_append, List.mem_singleton] at hm
  rcases hm with hm | rfl
  · exact h j hj hm
  · exact hi
theorem bne_t {a b : Int} (h : (a != b) = true) : (a == b) = false := by
  rw [bne, Bool.not_eq_true'] at h
  exact h
theorem bne_f {a b : Int} (h : (a != b) = false) : (a == b) = true := by
  rw [bne, Bool.not_eq_false'] at h
  exact h
/-- What Decode hands back. -/
def DecR (K : Nat → KF) (w : World) (s : ByteArray) (en : Ending) (w' : World) : Prop :=
  (∃ i b : Nat, i < 5 ∧ (32 ≤ s.size ∧ s.size ≤ 200) ∧ decI K s i = true ∧ en = .returned (.tuple #[.agg ((dE K s i).1.cells ((K i).va b (dE K s i).1) ((K i).vg b (dE K s i).1)), .int .i64 0]) ∧ St w [(K i).it b (dE K s i).1] w') ∨
  (((s.size < 32 ∨ 200 < s.size) ∨ ∀ i, i < 5 → decI K s i = false) ∧ RetV w (.tuple #[.agg (E.zero.cells vnil vnil), .int .i64 11]) en w')

set_option maxRecDepth 100000 in
theorem decodeE_any (K : Nat → KF) (hK : Fam K) (s : ByteArray) (w : World) (hg : Good w) (hsz : s.size < 4294967281) :
    Calls Tryz.prog 56 #[.string s] w (DecR K w s) := by
  refine enter Tryz.func56 rfl Tryz.ntmps56 rfl ?_
  refine WC.seq ?_
  refine WC.region ?_
  refine WL.alloc Tryz.zeroValue34 rfl rfl (fun b2 => ?_)
  refine WL.p rfl rfl rfl (P.assign rfl) ?_
  refine WL.nil_ ?_
  refine End.seq ?_
  refine WC.seq ?_
  refine WC.region ?_
  refine WL.p rfl rfl rfl (P.assign rfl) ?_
  refine WL.nil_ ?_
  refine End.seq ?_
  refine WC.seq ?_
  refine WC.seq ?_
  refine WC.region ?_
  refine WL.p rfl rfl rfl (P.move rfl) ?_
  refine WL.p rfl rfl rfl (P.lenS Tryz.underlying9 rfl) ?_
  refine WL.p rfl rfl rfl (P.move rfl) ?_
  refine WL.p rfl rfl rfl (P.cmp rfl rfl rfl) ?_
  refine WL.p rfl rfl rfl (P.move rfl) ?_
  refine WL.split 15 rfl (fun hs15 => ?_) (fun hs15 => ?_)
  ·
    refine WL.off rfl rfl ?_
    refine WL.off rfl rfl ?_
    refine WL.off rfl rfl ?_
    refine WL.p rfl rfl rfl (P.pickT rfl rfl) ?_
    refine WL.nil_ ?_
    refine End.seq ?_
    refine WC.condT rfl ?_
    refine WC.seq ?_
    refine WC.region ?_
    refine WL.p rfl rfl rfl (P.build rfl (fun w => bo_34 Tryz.zeroValue34 (cs := #[_, _, _, _, _, _, _, _, _, _, _, _, _, _, _, _, _, _, _, _, _, _, _, _, _, _, _, _, _, _, _, _, _]) rfl rfl w)) ?_
    refine WL.storeW 0 Tryz.sizeOf34 rfl rfl rfl rfl rfl rfl rfl ?_
    refine WL.p rfl rfl rfl (P.assign rfl) ?_
    refine WL.nil_ ?_
    refine End.seq ?_
    refine WC.ret ?_
    refine End.thenR ?_
    refine End.retCT 0 rfl Tryz.isAgg34 Tryz.sizeOf34 rfl rfl rfl rfl ?_
    exact fun w' hs' => .inr ⟨.inl (.inl (by have := of_decide_eq_true hs15; omega)), RetV.of rfl hs'⟩
  ·
    refine WL.p rfl rfl rfl (P.move rfl) ?_
    refine WL.p rfl rfl rfl (P.lenS Tryz.underlying9 rfl) ?_
    refine WL.p rfl rfl rfl (P.cmp rfl rfl rfl) ?_
    refine WL.p rfl rfl rfl (P.pickF rfl rfl) ?_
    refine WL.nil_ ?_
    refine End.seq ?_
    refine WC.cond rfl (fun hc19 => ?_) (fun hc19 => ?_)
    ·
      refine WC.seq ?_
      refine WC.region ?_
      refine WL.p rfl rfl rfl (P.build rfl (fun w => bo_34 Tryz.zeroValue34 (cs := #[_, _, _, _, _, _, _, _, _, _, _, _, _, _, _, _, _, _, _, _, _, _, _, _, _, _, _, _, _, _, _, _, _]) rfl rfl w)) ?_
      refine WL.storeW 0 Tryz.sizeOf34 rfl rfl rfl rfl rfl rfl rfl ?_
      refine WL.p rfl rfl rfl (P.assign rfl) ?_
      refine WL.nil_ ?_
      refine End.seq ?_
      refine WC.ret ?_
      refine End.thenR ?_
      refine End.retCT 0 rfl Tryz.isAgg34 Tryz.sizeOf34 rfl rfl rfl rfl ?_
      exact fun w' hs' => .inr ⟨.inl (.inr (by have := of_decide_eq_true hc19; omega)), RetV.of rfl hs'⟩
    ·
      have hlo : 32 ≤ s.size := by have := of_decide_eq_false hs15; omega
      have hhi : s.size ≤ 200 := by have := of_decide_eq_false hc19; omega
      refine WC.skip ?_
      refine End.seq ?_
      refine WC.seq ?_
      refine WC.seq ?_
      refine WC.region ?_
      refine WL.callx (ent_of Tryz.func114 rfl rfl) rfl rfl rfl (fun w hs => forms_any w) (fun bm _ => ?_)
      refine WL.range 0 Tryz.underlying130 rfl rfl rfl rfl (fun r22 => ?_)
      refine WL.nil_ ?_
      refine End.seq ?_
      refine WC.block ?_
      refine WC.loopD (σ := Array Nat) (fun seen => []) (fun seen => [.obj r22 (.mapIter (some bm) 5 seen 5), .map bm formsEs 5, .blk b2 34 (E.zero.cells vnil vnil)]) (fun seen => ∀ i, i < 5 → i ∈ seen.toList → decI K s i = false) (fun seen => unseen seen.toList) #[] (fun i _ h => by simp at h) (Env.sub_nil) [0, 1, 2] rfl rfl ?_
      rintro seen hseen
      refine WC.seq ?_
      refine WC.region ?_
      refine WL.next 0 1 rfl rfl rfl rfl rfl (by decide) (fun hall => ?_) (fun e5 he5 hno5 => ?_)
      ·
        refine WL.p rfl rfl rfl (P.extract rfl rfl) ?_
        refine WL.nil_ ?_
        refine End.seq ?_
        refine WC.seq ?_
        refine WC.condF rfl ?_
        refine WC.exit ?_
        refine End.thenX ?_
        refine End.thenX ?_
        refine End.blkX ?_
        refine End.seq ?_
        refine WC.seq ?_
        refine WC.region ?_
        refine WL.p rfl rfl rfl (P.build rfl (fun w => bo_34 Tryz.zeroValue34 (cs := #[_, _, _, _, _, _, _, _, _, _, _, _, _, _, _, _, _, _, _, _, _, _, _, _, _, _, _, _, _, _, _, _, _]) rfl rfl w)) ?_
        refine WL.storeW 2 Tryz.sizeOf34 rfl rfl rfl rfl rfl rfl rfl ?_
        refine WL.p rfl rfl rfl (P.assign rfl) ?_
        refine WL.nil_ ?_
        refine End.seq ?_
        refine WC.ret ?_
        refine End.retCT 2 rfl Tryz.isAgg34 Tryz.sizeOf34 rfl rfl rfl rfl ?_
        exact fun w' hs' => .inr ⟨.inr (fun i hi => hseen i hi (hall _ (hK.all hi))), RetV.of rfl hs'⟩
      ·
        obtain ⟨i, hi, rfl⟩ := hK.mem he5
        have hF := hK.law i hi
        have hkd := hK.kind i hi
        refine WL.p rfl rfl rfl (P.extract rfl rfl) ?_
        refine WL.nil_ ?_
        refine End.seq ?_
        refine WC.seq ?_
        refine WC.condT rfl ?_
        refine WC.skip ?_
        refine End.seq ?_
        refine WC.block ?_
        refine WC.seq ?_
        refine WC.region ?_
        refine WL.p rfl rfl rfl (P.entry (e := ⟨.int .i64 (i : Int), .agg (K i).form, i⟩) 0 1 rfl rfl rfl (hK.all hi) (by decide)) ?_
        refine WL.p rfl rfl rfl (P.extract rfl rfl) ?_
        refine WL.p rfl rfl rfl (P.extract rfl rfl) ?_
        refine WL.alloc Tryz.zeroValue128 rfl rfl (fun b6 => ?_)
        refine WL.p rfl rfl rfl (P.assign rfl) ?_
        refine WL.storeW 0 Tryz.sizeOf128 rfl rfl rfl rfl rfl rfl rfl ?_
        refine WL.nil_ ?_
        refine End.seq ?_
        refine WC.seq ?_
        refine WC.seq ?_
        refine WC.quiet (by kernel_rfl) ?_
        refine WQ.p rfl rfl rfl (P.fieldAddr fa_128_0 rfl) ?_
        refine WQ.p rfl rfl rfl (P.loadO 0 Tryz.isAgg5 rfl rfl rfl) ?_
        refine WQ.p rfl rfl rfl (P.move rfl) ?_
        refine WQ.p rfl rfl rfl (P.byte Tryz.underlying9 rfl rfl (by omega) (by omega)) ?_
        refine WQ.p rfl rfl rfl (P.cmp rfl rfl rfl) ?_
        refine WQ.nil_ ?_
        refine End.seq ?_
        refine WC.cond rfl (fun hc32 => ?_) (fun hc32 => ?_)
        ·
          refine WC.exit ?_
          refine End.thenX ?_
          refine End.blkX ?_
          refine End.againD (seen.push i) ?_ ?_ rfl (Env.sub_nil) rfl [1, 2, 3] rfl rfl
          · exact seen_push hseen (by rw [decI, show ((K i).L == letterOf s) = false from bne_t hc32]; rfl)
          · show unseen (seen.push i).toList < unseen seen.toList; rw [Array.toList_push]; exact unseen_lt hi hno5
        ·
          refine WC.skip ?_
          refine End.seq ?_
          refine WC.seq ?_
          refine WC.region ?_
          refine WL.p rfl rfl rfl (P.move rfl) ?_
          refine WL.p rfl rfl rfl (P.move rfl) ?_
          refine WL.p rfl rfl rfl (P.move rfl) ?_
          refine WL.p rfl rfl rfl (P.subLH Tryz.underlying9 rfl rfl rfl (by omega) (by omega) (by omega)) ?_
          refine WL.callv (ent_of Tryz.func142 rfl rfl) rfl rfl rfl (fun w hs => trim_any _ w (by simp [ByteArray.size_extract]; omega)) ?_
          refine WL.p rfl rfl rfl (P.build rfl (fun w => bo_34 Tryz.zeroValue34 (cs := #[_, _, _, _, _, _, _, _, _, _, _, _, _, _, _, _, _, _, _, _, _, _, _, _, _, _, _, _, _, _, _, _, _]) rfl rfl w)) ?_
          refine WL.alloc Tryz.zeroValue34 rfl rfl (fun b7 => ?_)
          refine WL.storeW 0 Tryz.sizeOf34 rfl rfl rfl rfl rfl rfl rfl ?_
          refine WL.nil_ ?_
          refine End.seq ?_
          refine WC.seq ?_
          refine WC.region ?_
          refine WL.p rfl rfl rfl (P.move rfl) ?_
          refine WL.p rfl rfl rfl (P.move rfl) ?_
          refine WL.p rfl rfl rfl (P.subL Tryz.underlying9 rfl rfl (by omega) (by omega)) ?_
          refine WL.callx (ent_of Tryz.func143 rfl rfl) rfl rfl rfl (fun w hs => newReader_any (s.extract 32 s.size) w) (fun br _ => ?_)
          refine WL.p rfl rfl rfl (P.build rfl (fun w => bo_155 Tryz.zeroValue155 (cs := #[_, _]) rfl rfl w)) ?_
          refine WL.box rfl rfl rfl (fun b44 => ?_)
          refine WL.p rfl rfl rfl (P.assign rfl) ?_
          refine WL.nil_ ?_
          refine End.seq ?_
          refine WC.seq ?_
          refine WC.region ?_
          refine WL.p rfl rfl rfl (P.fieldAddr fa_128_2 rfl) ?_
          refine WL.p rfl rfl rfl (P.loadO 3 Tryz.isAgg126 rfl rfl rfl) ?_
          refine WL.p rfl rfl rfl (P.move rfl) ?_
          have hnm : (trimR (s.extract 1 32)).size < 4294967281 := by have h1 := trimR_size (s.extract 1 32); have h2 := extract_size s 1 32; omega
          refine WL.callG (α := Nat) (S := fun _ => True) (v := fun _ => .tuple #[]) (H' := fun s9 => (rdB br (dE K s i).2 :: cB b44 bempty (some ⟨br, 0, none⟩) :: (K i).it s9 (dE K s i).1 :: .blk b7 34 ((dE K s i).1.cells ((K i).va s9 (dE K s i).1) ((K i).vg s9 (dE K s i).1)) :: _)) hF.entg rfl rfl rfl rfl rfl rfl (fun w hs => by rw [Array.append_empty]; exact (hF.read (dE0 i s) (s.extract 32 s.size, 0) rfl rfl (by have := extract_size s 32 s.size; show (s.extract 32 s.size).size < _; omega) br b44 b7 bempty _ _ w hs.swap2).mono (fun en w' h => by obtain ⟨s9, h1, h2⟩ := h; exact ⟨s9, trivial, h1, h2⟩)) (fun s10 _ => ?_)
          refine WL.nil_ ?_
          refine End.seq ?_
          refine WC.seq ?_
          refine WC.region ?_
          refine WL.p rfl rfl rfl (P.loadW 3 Tryz.isAgg34 Tryz.sizeOf34 rfl rfl rfl) ?_
          refine WL.callv (ent_of Tryz.func54 rfl rfl) rfl rfl rfl (fun w hs => by have := encode_any (K i) (hF) (dE K s i).1 ((K i).va s10 (dE K s i).1) ((K i).vg s10 (dE K s i).1) w (hg.st hs) ((hF.keep (dE0 i s) (s.extract 32 s.size, 0)).1.trans hkd.symm) (hF.at_ s10 2 _ _ _ _ _ _ rfl rfl rfl hs rfl) (by have h2 : (dE K s i).1.name = trimR (s.extract 1 32) := (hF.keep (dE0 i s) (s.extract 32 s.size, 0)).2; rw [h2]; exact hnm) hF.letter; exact this) ?_
          refine WL.p rfl rfl rfl (P.move rfl) ?_
          refine WL.p rfl rfl rfl (P.extract rfl rfl) ?_
          refine WL.p rfl rfl rfl (P.extract rfl rfl) ?_
          refine WL.p rfl rfl rfl (P.assign rfl) ?_
          refine WL.p rfl rfl rfl (P.assign rfl) ?_
          refine WL.nil_ ?_
          refine End.seq ?_
          refine WC.seq ?_
          refine WC.region ?_
          refine WL.p rfl rfl rfl (P.move rfl) ?_
          refine WL.p rfl rfl rfl (P.nilCheck rfl) ?_
          refine WL.p rfl rfl rfl (P.fieldAddr fa_155_1 rfl) ?_
          refine WL.p rfl rfl rfl (P.loadO 1 Tryz.isAgg152 rfl rfl rfl) ?_
          refine WL.callv (ent_of Tryz.func144 rfl rfl) rfl rfl rfl (fun w hs => end_st hs (j := 0) rfl) ?_
          refine WL.p rfl rfl rfl (P.cmp rfl rfl rfl) ?_
          refine WL.p rfl rfl rfl (P.move rfl) ?_
          refine WL.split 60 rfl (fun hs60 => ?_) (fun hs60 => ?_)
          ·
            refine WL.p rfl rfl rfl (P.move rfl) ?_
            refine WL.p rfl rfl rfl (P.cmp rfl rfl rfl) ?_
            refine WL.p rfl rfl rfl (P.pickT rfl rfl) ?_
            refine WL.p rfl rfl rfl (P.move rfl) ?_
            refine WL.split 64 rfl (fun hs64 => ?_) (fun hs64 => ?_)
            ·
              refine WL.p rfl rfl rfl (P.move rfl) ?_
              refine WL.p rfl rfl rfl (P.move rfl) ?_
              refine WL.p rfl rfl rfl (P.cmps rfl rfl rfl) ?_
              refine WL.p rfl rfl rfl (P.pickT rfl rfl) ?_
              refine WL.nil_ ?_
              refine End.seq ?_
              refine WC.cond rfl (fun hc68 => ?_) (fun hc68 => ?_)
              ·
                refine WC.seq ?_
                refine WC.region ?_
                refine WL.p rfl rfl rfl (P.loadW 3 Tryz.isAgg34 Tryz.sizeOf34 rfl rfl rfl) ?_
                refine WL.storeW 7 Tryz.sizeOf34 rfl rfl rfl (E.one _ (hF.one _ _).1 (hF.one _ _).2) rfl rfl rfl ?_
                refine WL.p rfl rfl rfl (P.assign rfl) ?_
                refine WL.nil_ ?_
                refine End.seq ?_
                refine WC.ret ?_
                refine End.blkR ?_
                refine End.thenR ?_
                refine End.blkR ?_
                refine End.thenR ?_
                refine End.retCT 7 rfl Tryz.isAgg34 Tryz.sizeOf34 rfl rfl rfl rfl ?_
                have h1 : ((K i).L == letterOf s) = true := bne_f hc32
                exact fun w' hs' => .inl ⟨i, s10, hi, ⟨hlo, hhi⟩, by rw [decI, h1, hs60, hs64, show ((if (K i).valid (dE K s i).1 = true then (K i).record (dE K s i).1 else ⟨#[]⟩).toList == s.toList) = true from hc68]; rfl, rfl, hs'.sel [2] rfl⟩
              ·
                refine WC.skip ?_
                refine End.blkN ?_
                refine End.againD (seen.push i) ?_ ?_ rfl (Env.sub_nil) rfl [5, 6, 7] rfl rfl
                · exact seen_push hseen (by rw [decI, hs60, hs64, show ((if (K i).valid (dE K s i).1 = true then (K i).record (dE K s i).1 else ⟨#[]⟩).toList == s.toList) = false from hc68]; simp)
                · show unseen (seen.push i).toList < unseen seen.toList; rw [Array.toList_push]; exact unseen_lt hi hno5
            ·
              refine WL.off rfl rfl ?_
              refine WL.off rfl rfl ?_
              refine WL.off rfl rfl ?_
              refine WL.p rfl rfl rfl (P.pickF rfl rfl) ?_
              refine WL.nil_ ?_
              refine End.seq ?_
              refine WC.condF rfl ?_
              refine WC.skip ?_
              refine End.blkN ?_
              refine End.againD (seen.push i) ?_ ?_ rfl (Env.sub_nil) rfl [5, 6, 7] rfl rfl
              · exact seen_push hseen (by rw [decI, hs60, hs64]; simp)
              · show unseen (seen.push i).toList < unseen seen.toList; rw [Array.toList_push]; exact unseen_lt hi hno5
          ·
            refine WL.off rfl rfl ?_
            refine WL.off rfl rfl ?_
            refine WL.p rfl rfl rfl (P.pickF rfl rfl) ?_
            refine WL.p rfl rfl rfl (P.move rfl) ?_
            refine WL.off rfl rfl ?_
            refine WL.off rfl rfl ?_
            refine WL.off rfl rfl ?_
            refine WL.p rfl rfl rfl (P.pickF rfl rfl) ?_
            refine WL.nil_ ?_
            refine End.seq ?_
            refine WC.condF rfl ?_
            refine WC.skip ?_
            refine End.blkN ?_
            refine End.againD (seen.push i) ?_ ?_ rfl (Env.sub_nil) rfl [5, 6, 7] rfl rfl
            · exact seen_push hseen (by rw [decI, hs60]; simp)
            · show unseen (seen.push i).toList < unseen seen.toList; rw [Array.toList_push]; exact unseen_lt hi hno5

end Go.Proofs.YtlkkiimmangplaaGreatDoor

/- Days. -/
namespace Go.Proofs.YtlkkiimmangplaaGreatDoor
open Go.RowKit
set_option linter.unusedVariables false
set_option linter.unusedSimpArgs false

/-- A function value that answers like p at numbers. -/
structure PredI (w : World) (g : Nat) (cap : Array Value) (p : Int → Bool) : Prop where
  ent : Ent g
  at_ : ∀ (q : Int) (w' : World), Below w.heap.size w w' → Calls Tryz.prog g (#[.int .i64 q] ++ cap) w' (RetV w' (.bool (p q)))
theorem PredI.at' {w w' : World} {H : List It} {g : Nat} {cap : Array Value} {p : Int → Bool} (h : PredI w g cap p) (q : Int) (hs : St w H w') : Calls Tryz.prog g (#[.int .i64 q] ++ cap) w' (RetV w' (.bool (p q))) := h.at_ q w' hs.below
theorem idx_hitI {l : List Int} {k : Nat} {x : Int} {p : Int → Bool} (hx : l[k]? = some x) (h : p x = true) : l.any p = true := by rw [List.any_eq_true]; exact ⟨x, List.mem_of_getElem? hx, h⟩

set_option maxRecDepth 100000 in
theorem indexFuncI_any (A : Option Addr) (c : Nat) (xs : List Int) (g : Nat) (cap : Array Value) (p : Int → Bool) (w : World) (hr : Sl encI 1 w A xs) (hp : PredI w g cap p) :
    Calls Tryz.prog 329 #[.slice A xs.length c, .func (.func g) #[] cap] w (Ret w (fun i : Int => decide (0 ≤ i) = xs.any p) (fun i => .int .i64 i) (fun _ => [])) := by
  have hl := hr.1
  refine enter Tryz.func329 rfl Tryz.ntmps329 rfl ?_
  refine WC.seq ?_
  refine WC.region ?_
  refine WL.p rfl rfl rfl (P.assign rfl) ?_
  refine WL.nil_ ?_
  refine End.seq ?_
  refine WC.seq ?_
  refine WC.seq ?_
  refine WC.region ?_
  refine WL.p rfl rfl rfl (P.move rfl) ?_
  refine WL.p rfl rfl rfl (P.lenR Tryz.underlying22 rfl) ?_
  refine WL.p rfl rfl rfl (P.move rfl) ?_
  refine WL.nil_ ?_
  refine End.seq ?_
  refine WC.block ?_
  refine WC.loopD (σ := Nat) (fun k => [(8, .int .i64 k)]) (fun k => []) (fun k => k ≤ xs.length ∧ (xs.take k).any p = false) (fun k => xs.length - k) 0 ⟨Nat.zero_le _, rfl⟩ (Env.sub_cons rfl (Env.sub_nil)) [] rfl rfl ?_
  rintro k ⟨hk, ht⟩
  refine WC.seq ?_
  refine WC.region ?_
  refine WL.p rfl rfl rfl (P.cmp rfl rfl rfl) ?_
  refine WL.nil_ ?_
  refine End.seq ?_
  refine WC.seq ?_
  refine WC.cond rfl (fun hc9 => ?_) (fun hc9 => ?_)
  ·
    try simp only [decide_eq_true_eq, decide_eq_false_iff_not, beq_iff_eq, beq_eq_false_iff_ne, bne_iff_ne, bne_eq_false_iff_eq, Bool.not_eq_true', Bool.not_eq_false', ne_eq, Int.not_lt, Int.not_le] at hc9
    obtain ⟨b, off, rfl, hcx⟩ := hr.at_ (by omega)
    obtain ⟨x, hx⟩ := get_of_lt (xs := xs) (k := k) (by omega)
    refine WC.skip ?_
    refine End.seq ?_
    refine WC.seq ?_
    refine WC.block ?_
    refine WC.seq ?_
    refine WC.region ?_
    refine WL.p rfl rfl rfl (P.move rfl) ?_
    refine WL.p rfl rfl rfl (P.assign rfl) ?_
    refine WL.nil_ ?_
    refine End.seq ?_
    refine WC.seq ?_
    refine WC.region ?_
    refine WL.p rfl rfl rfl (P.move rfl) ?_
    refine WL.p rfl rfl rfl (P.move rfl) ?_
    refine WL.p rfl rfl rfl (P.move rfl) ?_
    refine WL.p rfl rfl rfl (P.elemAddr Tryz.underlying22 Tryz.sizeOf3 rfl rfl (by omega) (by omega)) ?_
    refine WL.p rfl rfl rfl (P.loadB Tryz.isAgg3 rfl (hcx k x hx 0 _ rfl)) ?_
    refine WL.callc hp.ent rfl rfl rfl rfl (fun w hs => hp.at' x hs) ?_
    refine WL.nil_ ?_
    refine End.seq ?_
    refine WC.cond rfl (fun hc16 => ?_) (fun hc16 => ?_)
    ·
      try simp only [decide_eq_true_eq, decide_eq_false_iff_not, beq_iff_eq, beq_eq_false_iff_ne, bne_iff_ne, bne_eq_false_iff_eq, Bool.not_eq_true', Bool.not_eq_false', ne_eq, Int.not_lt, Int.not_le] at hc16
      refine WC.seq ?_
      refine WC.region ?_
      refine WL.p rfl rfl rfl (P.move rfl) ?_
      refine WL.p rfl rfl rfl (P.assign rfl) ?_
      refine WL.nil_ ?_
      refine End.seq ?_
      refine WC.ret ?_
      refine End.blkR ?_
      refine End.thenR ?_
      refine End.thenR ?_
      refine End.blkR ?_
      refine End.thenR ?_
      refine End.ret1 rfl rfl ?_
      exact fun w' hs' => ⟨k, by rw [idx_hitI hx hc16]; simp, rfl, hs'⟩
    ·
      try simp only [decide_eq_true_eq, decide_eq_false_iff_not, beq_iff_eq, beq_eq_false_iff_ne, bne_iff_ne, bne_eq_false_iff_eq, Bool.not_eq_true', Bool.not_eq_false', ne_eq, Int.not_lt, Int.not_le] at hc16
      refine WC.skip ?_
      refine End.blkN ?_
      refine End.seq ?_
      refine WC.region ?_
      refine WL.p rfl rfl rfl (P.ari64 rfl rfl rfl (by omega)) ?_
      refine WL.p rfl rfl rfl (P.move rfl) ?_
      refine WL.nil_ ?_
      refine End.againD (k + 1) ?_ ?_ rfl (Env.sub_cons rfl (Env.sub_nil)) rfl [] rfl rfl
      · exact ⟨by omega, by rw [any_false_snoc hx, ht, Bool.false_or]; simpa using hc16⟩
      · omega
  ·
    try simp only [decide_eq_true_eq, decide_eq_false_iff_not, beq_iff_eq, beq_eq_false_iff_ne, bne_iff_ne, bne_eq_false_iff_eq, Bool.not_eq_true', Bool.not_eq_false', ne_eq, Int.not_lt, Int.not_le] at hc9
    refine WC.exit ?_
    refine End.thenX ?_
    refine End.thenX ?_
    refine End.blkX ?_
    refine End.seq ?_
    refine WC.seq ?_
    refine WC.region ?_
    refine WL.p rfl rfl rfl (P.assign rfl) ?_
    refine WL.nil_ ?_
    refine End.seq ?_
    refine WC.ret ?_
    refine End.ret1 rfl rfl ?_
    have e : k = xs.length := by omega
    rw [List.take_of_length_le (by omega)] at ht
    exact fun w' hs' => ⟨-1, by rw [ht]; rfl, rfl, hs'⟩

set_option maxRecDepth 100000 in
theorem containsFuncI_any (A : Option Addr) (c : Nat) (xs : List Int) (g : Nat) (cap : Array Value) (p : Int → Bool) (w : World) (hr : Sl encI 1 w A xs) (hp : PredI w g cap p) :
    Calls Tryz.prog 303 #[.slice A xs.length c, .func (.func g) #[] cap] w (RetV w (.bool (xs.any p))) := by
  refine enter Tryz.func303 rfl Tryz.ntmps303 rfl ?_
  refine WC.seq ?_
  refine WC.region ?_
  refine WL.p rfl rfl rfl (P.assign rfl) ?_
  refine WL.nil_ ?_
  refine End.seq ?_
  refine WC.seq ?_
  refine WC.region ?_
  refine WL.p rfl rfl rfl (P.move rfl) ?_
  refine WL.p rfl rfl rfl (P.move rfl) ?_
  refine WL.callx (ent_of Tryz.func329 rfl rfl) rfl rfl rfl (fun w hs => indexFuncI_any A c xs g cap p w (hr.st hs) ⟨hp.ent, fun q w' hb => hp.at_ q w' (hs.below.trans (hb.mono hs.size))⟩) (fun i hi => ?_)
  refine WL.p rfl rfl rfl (P.cmp rfl rfl rfl) ?_
  refine WL.p rfl rfl rfl (P.assign rfl) ?_
  refine WL.nil_ ?_
  refine End.seq ?_
  refine WC.ret ?_
  refine End.ret1 rfl rfl ?_
  exact fun w' hs' => RetV.of (by rw [← hi]) hs'

theorem itoaB_size (n : Int) (h : -1000000000000000 ≤ n ∧ n ≤ 1000000000000000) : 1 ≤ (itoaB n).size ∧ (itoaB n).size ≤ 21 := by
  refine ⟨?_, Lib.itoa_length_le n (by omega) (by omega)⟩
  show 1 ≤ (Lib.itoa n).length
  unfold Lib.itoa
  split
  · simp
  · rw [Lib.decDigits]
    split <;> simp
def twoD (n : Int) : ByteArray := (itoaB (n + 100)).extract 1 (itoaB (n + 100)).size
theorem twoD_size (n : Int) (h : 0 ≤ n ∧ n ≤ 100000) : (twoD n).size ≤ 21 := by
  have := itoaB_size (n + 100) (by omega)
  have h2 := extract_size (itoaB (n + 100)) 1 (itoaB (n + 100)).size
  show ((itoaB (n + 100)).extract 1 (itoaB (n + 100)).size).size ≤ 21
  omega
def dash : ByteArray := ⟨#[45]⟩
def fmtP (day : Int) : ByteArray := if dayB day = true then itoaB (yearD day) ++ dash ++ twoD (mdD day).1 ++ dash ++ twoD (mdD day).2 else ⟨#[]⟩
theorem dash_size : dash.size = 1 := rfl
theorem day_lim {day : Int} (hd : dayB day = true) : (0 ≤ yearD day ∧ yearD day ≤ 2200) ∧ (0 ≤ (mdD day).1 ∧ (mdD day).1 ≤ 12) ∧ 0 ≤ (mdD day).2 ∧ (mdD day).2 ≤ 70000 := by
  have hl := dayB_lim hd
  obtain ⟨h1, h2, h3⟩ := yearP_is hd
  have h4 := firstP_big h1 (by omega)
  have h5 : 0 ≤ firstP (yearP day) := by unfold firstP; omega
  have h6 := mdP_pos (lensP (yearP day)) 0 (day - firstP (yearP day)) (fun n hn => by have := lens_mem hn; omega) (by omega) (by omega)
  have h7 : (lensP (yearP day)).length = 12 := rfl
  have e : mdD day = mdP (lensP (yearP day)) 0 (day - firstP (yearP day)) := rfl
  rw [← e, h7] at h6
  refine ⟨?_, by omega, by omega⟩
  unfold yearD
  split <;> omega
theorem fmtP_nil (day : Int) : ((fmtP day).toList == (⟨#[]⟩ : ByteArray).toList) = !dayB day := by
  rw [toList_beq]
  cases hd : dayB day with
  | false =>
    rw [fmtP, if_neg (by rw [hd]; simp)]
    rfl
  | true =>
    refine decide_eq_false fun e => ?_
    have hl := day_lim hd
    have h1 := (itoaB_size (yearD day) (by omega)).1
    have h2 := congrArg ByteArray.size e
    rw [fmtP, if_pos hd] at h2
    simp only [size_append] at h2
    have h3 : (⟨#[]⟩ : ByteArray).size = 0 := rfl
    omega

set_option maxRecDepth 100000 in
theorem two_any (n : Int) (w : World) (hg : Good w) (hn : 0 ≤ n ∧ n ≤ 100000) :
    Calls Tryz.prog 222 #[.int .i64 n] w (RetV w (.string (twoD n))) := by
  have hz := itoaB_size (n + 100) (by omega)
  refine enter Tryz.func222 rfl Tryz.ntmps222 rfl ?_
  refine WC.seq ?_
  refine WC.region ?_
  refine WL.p rfl rfl rfl (P.assign rfl) ?_
  refine WL.nil_ ?_
  refine End.seq ?_
  refine WC.seq ?_
  refine WC.region ?_
  refine WL.p rfl rfl rfl (P.move rfl) ?_
  refine WL.p rfl rfl rfl (P.ari64 rfl rfl rfl (by omega)) ?_
  refine WL.callv (ent_of Tryz.func130 rfl rfl) rfl rfl rfl (fun w hs => itoa_any (n + 100) w (hg.st hs) (by omega)) ?_
  refine WL.p rfl rfl rfl (P.subL Tryz.underlying9 rfl rfl (by omega) (by omega)) ?_
  refine WL.p rfl rfl rfl (P.assign rfl) ?_
  refine WL.nil_ ?_
  refine End.seq ?_
  refine WC.ret ?_
  refine End.ret1 rfl rfl ?_
  exact fun w' hs' => RetV.of rfl hs'

set_option maxRecDepth 100000 in
theorem format_any (day : Int) (w : World) (hg : Good w) :
    Calls Tryz.prog 132 #[.int .i64 day] w (RetV w (.string (fmtP day))) := by
  refine enter Tryz.func132 rfl Tryz.ntmps132 rfl ?_
  refine WC.seq ?_
  refine WC.region ?_
  refine WL.p rfl rfl rfl (P.assign rfl) ?_
  refine WL.nil_ ?_
  refine End.seq ?_
  refine WC.seq ?_
  refine WC.seq ?_
  refine WC.region ?_
  refine WL.p rfl rfl rfl (P.move rfl) ?_
  refine WL.callv (ent_of Tryz.func220 rfl rfl) rfl rfl rfl (fun w hs => isDay_any day w) ?_
  refine WL.p rfl rfl rfl (P.not_ rfl) ?_
  refine WL.nil_ ?_
  refine End.seq ?_
  refine WC.cond rfl (fun hc9 => ?_) (fun hc9 => ?_)
  ·
    refine WC.seq ?_
    refine WC.region ?_
    refine WL.p rfl rfl rfl (P.assign rfl) ?_
    refine WL.nil_ ?_
    refine End.seq ?_
    refine WC.ret ?_
    refine End.thenR ?_
    refine End.ret1 rfl rfl ?_
    exact fun w' hs' => RetV.of (by rw [fmtP, if_neg (by simpa using hc9)]) hs'
  ·
    have hd : dayB day = true := by simpa using hc9
    have hlim := day_lim hd
    have hz1 := itoaB_size (yearD day) (by omega)
    have hz2 := twoD_size (mdD day).1 (by omega)
    have hz3 := twoD_size (mdD day).2 (by omega)
    have hz4 := dash_size
    refine WC.skip ?_
    refine End.seq ?_
    refine WC.seq ?_
    refine WC.region ?_
    refine WL.p rfl rfl rfl (P.move rfl) ?_
    refine WL.callv (ent_of Tryz.func221 rfl rfl) rfl rfl rfl (fun w hs => date_any day w hd) ?_
    refine WL.p rfl rfl rfl (P.move rfl) ?_
    refine WL.p rfl rfl rfl (P.extract rfl rfl) ?_
    refine WL.p rfl rfl rfl (P.extract rfl rfl) ?_
    refine WL.p rfl rfl rfl (P.extract rfl rfl) ?_
    refine WL.p rfl rfl rfl (P.assign rfl) ?_
    refine WL.p rfl rfl rfl (P.assign rfl) ?_
    refine WL.p rfl rfl rfl (P.assign rfl) ?_
    refine WL.nil_ ?_
    refine End.seq ?_
    refine WC.seq ?_
    refine WC.region ?_
    refine WL.p rfl rfl rfl (P.assign rfl) ?_
    refine WL.nil_ ?_
    refine End.seq ?_
    refine WC.seq ?_
    refine WC.region ?_
    refine WL.p rfl rfl rfl (P.move rfl) ?_
    refine WL.callv (ent_of Tryz.func130 rfl rfl) rfl rfl rfl (fun w hs => itoa_any _ w (hg.st hs) (by omega)) ?_
    refine WL.p rfl rfl rfl (P.cat rfl rfl (by show _ + dash.size ≤ _; omega)) ?_
    refine WL.p rfl rfl rfl (P.move rfl) ?_
    refine WL.p rfl rfl rfl (P.move rfl) ?_
    refine WL.callc (ent_of Tryz.func222 rfl rfl) rfl rfl rfl rfl (fun w hs => by rw [Array.append_empty]; exact two_any (mdD day).1 w (hg.st hs) (by omega)) ?_
    refine WL.p rfl rfl rfl (P.cat rfl rfl (by rw [size_append]; show _ + dash.size + _ ≤ _; omega)) ?_
    refine WL.p rfl rfl rfl (P.cat rfl rfl (by rw [size_append, size_append]; show _ + dash.size + _ + dash.size ≤ _; omega)) ?_
    refine WL.p rfl rfl rfl (P.move rfl) ?_
    refine WL.p rfl rfl rfl (P.move rfl) ?_
    refine WL.callc (ent_of Tryz.func222 rfl rfl) rfl rfl rfl rfl (fun w hs => by rw [Array.append_empty]; exact two_any (mdD day).2 w (hg.st hs) (by omega)) ?_
    refine WL.p rfl rfl rfl (P.cat rfl rfl (by rw [size_append, size_append, size_append]; show _ + dash.size + _ + dash.size + _ ≤ _; omega)) ?_
    refine WL.p rfl rfl rfl (P.assign rfl) ?_
    refine WL.nil_ ?_
    refine End.seq ?_
    refine WC.ret ?_
    refine End.ret1 rfl rfl ?_
    exact fun w' hs' => RetV.of (by rw [fmtP, if_pos hd]; rfl) hs'

set_option maxRecDepth 100000 in
theorem day1_any (n : Int) (w : World) (hg : Good w) :
    Calls Tryz.prog 304 #[.int .i64 n] w (RetV w (.bool (!dayB n))) := by
  refine enter Tryz.func304 rfl Tryz.ntmps304 rfl ?_
  refine WC.seq ?_
  refine WC.region ?_
  refine WL.p rfl rfl rfl (P.assign rfl) ?_
  refine WL.nil_ ?_
  refine End.seq ?_
  refine WC.seq ?_
  refine WC.region ?_
  refine WL.p rfl rfl rfl (P.move rfl) ?_
  refine WL.callv (ent_of Tryz.func132 rfl rfl) rfl rfl rfl (fun w hs => format_any n w (hg.st hs)) ?_
  refine WL.p rfl rfl rfl (P.cmps rfl rfl rfl) ?_
  refine WL.p rfl rfl rfl (P.assign rfl) ?_
  refine WL.nil_ ?_
  refine End.seq ?_
  refine WC.ret ?_
  refine End.ret1 rfl rfl ?_
  exact fun w' hs' => RetV.of (congrArg Value.bool (fmtP_nil n)) hs'

set_option maxRecDepth 100000 in
theorem day_any (A : Option Addr) (c : Nat) (xs : List Int) (w : World) (hg : Good w) (hr : Sl encI 1 w A xs) :
    Calls Tryz.prog 264 #[.slice A xs.length c] w (RetV w (.bool (xs.all dayB))) := by
  refine enter Tryz.func264 rfl Tryz.ntmps264 rfl ?_
  refine WC.seq ?_
  refine WC.region ?_
  refine WL.p rfl rfl rfl (P.assign rfl) ?_
  refine WL.nil_ ?_
  refine End.seq ?_
  refine WC.seq ?_
  refine WC.region ?_
  refine WL.p rfl rfl rfl (P.move rfl) ?_
  refine WL.callv (ent_of Tryz.func303 rfl rfl) rfl rfl rfl (fun w hs => containsFuncI_any A c xs 304 #[] (fun n => !dayB n) w (hr.st hs) ⟨ent_of Tryz.func304 rfl rfl, fun q w' hb => by rw [Array.append_empty]; exact day1_any q w' ((hg.st hs).below hb)⟩) ?_
  refine WL.p rfl rfl rfl (P.not_ rfl) ?_
  refine WL.p rfl rfl rfl (P.assign rfl) ?_
  refine WL.nil_ ?_
  refine End.seq ?_
  refine WC.ret ?_
  refine End.ret1 rfl rfl ?_
  exact fun w' hs' => RetV.of (by rw [List.all_eq_not_any_not]) hs'

end Go.Proofs.YtlkkiimmangplaaGreatDoor

/- The fields of data sets in their ranges. -/
namespace Go.Proofs.YtlkkiimmangplaaGreatDoor
open Go.RowKit
set_option linter.unusedVariables false
set_option linter.unusedSimpArgs false

def altE (l : List Int) (i : Nat) : Bool := !(decide (l.getD i 0 < 1)) && (!(decide (1099511627776 < l.getD i 0)) && !(decide (0 < (i : Int)) && decide (l.getD i 0 ≤ l.getD (i - 1) 0)))
def altOK (l : List Int) : Bool := (List.range l.length).all (altE l)
def dataOK (e : E) : Bool := altOK e.alt && (inB 0 1099511627776 [e.ds.length, e.ds.block, e.ds.keyAt, e.ds.keyLength, e.ds.interval, e.ds.area, e.ds.freeInterval, e.ds.freeArea, e.ds.base, e.ds.altAt, e.ds.altLength] && (inB 1 1099511627776 [e.ds.id] && (inB 0 3 [e.ds.org] && (inB 0 2 [e.ds.format] && (inB 0 3 [e.ds.cls] && ((e.ds.volume.toList == (⟨#[]⟩ : ByteArray).toList || wordB e.ds.volume) && ((e.ds.owner.toList == (⟨#[]⟩ : ByteArray).toList || wordB e.ds.owner) && ([e.ds.created, e.ds.expires, e.used].all dayB && decide ((e.alt.length : Int) ≤ 4)))))))))
theorem range_snoc (p : Nat → Bool) (k : Nat) : (List.range (k + 1)).all p = ((List.range k).all p && p k) := by rw [List.range_succ]; simp
theorem dataOK_no {e : E} {k : Nat} (hk : k < e.alt.length) (h : altE e.alt k = false) : dataOK e = false := by
  have h1 : altOK e.alt = false := by
    unfold altOK
    rw [Bool.eq_false_iff]
    intro he
    rw [List.all_eq_true] at he
    rw [he k (List.mem_range.2 hk)] at h
    cases h
  rw [dataOK, h1]; rfl
theorem getD_ofI {l : List Int} {k : Nat} {x : Int} (h : l[k]? = some x) : l.getD k 0 = x := by rw [List.getD, h]; rfl

set_option maxHeartbeats 1000000 in
set_option maxRecDepth 100000 in
theorem dataOK_any (e : E) (va vg : Value) (w : World) (hg : Good w) (ha : EntAt w e va vg) :
    Calls Tryz.prog 195 #[.agg (e.cells va vg)] w (RetV w (.bool (dataOK e))) := by
  obtain ⟨⟨A1, c1, rfl, hc1, hr1⟩, ⟨A2, c2, rfl, hc2, hr2⟩⟩ := ha
  refine enter Tryz.func195 rfl Tryz.ntmps195 rfl ?_
  refine WC.seq ?_
  refine WC.region ?_
  refine WL.box rfl rfl rfl (fun b1 => ?_)
  refine WL.p rfl rfl rfl (P.assign rfl) ?_
  refine WL.nil_ ?_
  refine End.seq ?_
  refine WC.seq ?_
  refine WC.region ?_
  refine WL.p rfl rfl rfl (P.fieldAddr fa_34_2 rfl) ?_
  refine WL.p rfl rfl rfl (P.loadA 0 (vs := e.ds.cells) Tryz.isAgg31 Tryz.sizeOf31 rfl rfl rfl (E.ds_get e _ _)) ?_
  refine WL.alloc Tryz.zeroValue31 rfl rfl (fun b3 => ?_)
  refine WL.storeW 0 Tryz.sizeOf31 rfl rfl rfl rfl rfl rfl rfl ?_
  refine WL.nil_ ?_
  refine End.seq ?_
  refine WC.seq ?_
  refine WC.seq ?_
  refine WC.region ?_
  refine WL.p rfl rfl rfl (P.fieldAddr fa_34_3 rfl) ?_
  refine WL.p rfl rfl rfl (P.loadO 1 Tryz.isAgg22 rfl rfl rfl) ?_
  refine WL.p rfl rfl rfl (P.lenR Tryz.underlying22 rfl) ?_
  refine WL.p rfl rfl rfl (P.move rfl) ?_
  refine WL.nil_ ?_
  refine End.seq ?_
  refine WC.block ?_
  refine WC.loopD (σ := Nat) (fun k => [(11, .int .i64 (k : Nat))]) (fun k => _) (fun k => k ≤ e.alt.length ∧ (List.range k).all (altE e.alt) = true) (fun k => e.alt.length - k) 0 ⟨Nat.zero_le _, rfl⟩ (Env.sub_cons rfl (Env.sub_nil)) [0, 1] rfl rfl ?_
  rintro k ⟨hk, hok⟩
  refine WC.seq ?_
  refine WC.region ?_
  refine WL.p rfl rfl rfl (P.cmp rfl rfl rfl) ?_
  refine WL.nil_ ?_
  refine End.seq ?_
  refine WC.seq ?_
  refine WC.cond rfl (fun hc12 => ?_) (fun hc12 => ?_)
  ·
    have hkl : k < e.alt.length := by have := of_decide_eq_true hc12; omega
    have hl1 := hr1.1
    obtain ⟨b, off, rfl, hcx⟩ := hr1.at_ (by omega)
    obtain ⟨n, hx⟩ := get_of_lt (xs := e.alt) (k := k) hkl
    have hgn := getD_ofI hx
    refine WC.skip ?_
    refine End.seq ?_
    refine WC.seq ?_
    refine WC.block ?_
    refine WC.seq ?_
    refine WC.region ?_
    refine WL.p rfl rfl rfl (P.move rfl) ?_
    refine WL.p rfl rfl rfl (P.elemAddr Tryz.underlying22 Tryz.sizeOf3 rfl rfl (by omega) (by omega)) ?_
    refine WL.p rfl rfl rfl (P.loadB Tryz.isAgg3 rfl (hcx k n hx 0 _ rfl)) ?_
    refine WL.p rfl rfl rfl (P.assign rfl) ?_
    refine WL.p rfl rfl rfl (P.assign rfl) ?_
    refine WL.nil_ ?_
    refine End.seq ?_
    refine WC.seq ?_
    refine WC.region ?_
    refine WL.p rfl rfl rfl (P.move rfl) ?_
    refine WL.p rfl rfl rfl (P.cmp rfl rfl rfl) ?_
    refine WL.p rfl rfl rfl (P.move rfl) ?_
    refine WL.split 18 rfl (fun hs18 => ?_) (fun hs18 => ?_)
    ·
      refine WL.off rfl rfl ?_
      refine WL.off rfl rfl ?_
      refine WL.p rfl rfl rfl (P.pickT rfl rfl) ?_
      refine WL.p rfl rfl rfl (P.move rfl) ?_
      refine WL.off rfl rfl ?_
      refine WL.off rfl rfl ?_
      refine WL.off rfl rfl ?_
      refine WL.offU rfl rfl ?_
      refine WL.offU rfl rfl ?_
      refine WL.offU rfl rfl ?_
      refine WL.offU rfl rfl ?_
      refine WL.offU rfl rfl ?_
      refine WL.offU rfl rfl ?_
      refine WL.offU rfl rfl ?_
      refine WL.offU rfl rfl ?_
      refine WL.off rfl rfl ?_
      refine WL.p rfl rfl rfl (P.pickT rfl rfl) ?_
      refine WL.nil_ ?_
      refine End.seq ?_
      refine WC.condT rfl ?_
      refine WC.seq ?_
      refine WC.region ?_
      refine WL.p rfl rfl rfl (P.assign rfl) ?_
      refine WL.nil_ ?_
      refine End.seq ?_
      refine WC.ret ?_
      refine End.blkR ?_
      refine End.thenR ?_
      refine End.thenR ?_
      refine End.blkR ?_
      refine End.thenR ?_
      refine End.ret1 rfl rfl ?_
      exact fun w' hs' => RetV.of (by rw [dataOK_no hkl (by rw [altE, hgn, hs18]; rfl)]) hs'
    ·
      refine WL.p rfl rfl rfl (P.move rfl) ?_
      refine WL.p rfl rfl rfl (P.cmp rfl rfl rfl) ?_
      refine WL.p rfl rfl rfl (P.pickF rfl rfl) ?_
      refine WL.p rfl rfl rfl (P.move rfl) ?_
      refine WL.split 22 rfl (fun hs22 => ?_) (fun hs22 => ?_)
      ·
        refine WL.off rfl rfl ?_
        refine WL.off rfl rfl ?_
        refine WL.off rfl rfl ?_
        refine WL.offU rfl rfl ?_
        refine WL.offU rfl rfl ?_
        refine WL.offU rfl rfl ?_
        refine WL.offU rfl rfl ?_
        refine WL.offU rfl rfl ?_
        refine WL.offU rfl rfl ?_
        refine WL.offU rfl rfl ?_
        refine WL.offU rfl rfl ?_
        refine WL.off rfl rfl ?_
        refine WL.p rfl rfl rfl (P.pickT rfl rfl) ?_
        refine WL.nil_ ?_
        refine End.seq ?_
        refine WC.condT rfl ?_
        refine WC.seq ?_
        refine WC.region ?_
        refine WL.p rfl rfl rfl (P.assign rfl) ?_
        refine WL.nil_ ?_
        refine End.seq ?_
        refine WC.ret ?_
        refine End.blkR ?_
        refine End.thenR ?_
        refine End.thenR ?_
        refine End.blkR ?_
        refine End.thenR ?_
        refine End.ret1 rfl rfl ?_
        exact fun w' hs' => RetV.of (by rw [dataOK_no hkl (by rw [altE, hgn, hs18, hs22]; rfl)]) hs'
      ·
        refine WL.p rfl rfl rfl (P.move rfl) ?_
        refine WL.p rfl rfl rfl (P.cmp rfl rfl rfl) ?_
        refine WL.p rfl rfl rfl (P.move rfl) ?_
        refine WL.split 25 rfl (fun hs25 => ?_) (fun hs25 => ?_)
        ·
          have hk0 := of_decide_eq_true hs25
          obtain ⟨m, hm⟩ := get_of_lt (xs := e.alt) (k := k - 1) (by omega)
          have hgm := getD_ofI hm
          refine WL.p rfl rfl rfl (P.move rfl) ?_
          refine WL.p rfl rfl rfl (P.fieldAddr fa_34_3 rfl) ?_
          refine WL.p rfl rfl rfl (P.loadO 1 Tryz.isAgg22 rfl rfl rfl) ?_
          refine WL.p rfl rfl rfl (P.move rfl) ?_
          refine WL.p rfl rfl rfl (P.ari64 rfl rfl rfl (by omega)) ?_
          refine WL.p rfl rfl rfl (P.elemAddr Tryz.underlying22 Tryz.sizeOf3 rfl rfl (by omega) (by omega)) ?_
          refine WL.p rfl rfl rfl (P.loadB Tryz.isAgg3 rfl (by have h9 := hcx (k - 1) m hm 0 _ rfl; rw [Int.toNat_natCast] at h9; rw [show (((k : Nat) : Int) - 1).toNat = k - 1 by omega]; exact h9)) ?_
          refine WL.p rfl rfl rfl (P.cmp rfl rfl rfl) ?_
          refine WL.p rfl rfl rfl (P.pickT rfl rfl) ?_
          refine WL.p rfl rfl rfl (P.pickF rfl rfl) ?_
          refine WL.nil_ ?_
          refine End.seq ?_
          refine WC.cond rfl (fun hc35 => ?_) (fun hc35 => ?_)
          ·
            refine WC.seq ?_
            refine WC.region ?_
            refine WL.p rfl rfl rfl (P.assign rfl) ?_
            refine WL.nil_ ?_
            refine End.seq ?_
            refine WC.ret ?_
            refine End.blkR ?_
            refine End.thenR ?_
            refine End.thenR ?_
            refine End.blkR ?_
            refine End.thenR ?_
            refine End.ret1 rfl rfl ?_
            exact fun w' hs' => RetV.of (by rw [dataOK_no hkl (by rw [altE, hgn, hgm, hs18, hs22, hs25, hc35]; rfl)]) hs'
          ·
            refine WC.skip ?_
            refine End.blkN ?_
            refine End.seq ?_
            refine WC.region ?_
            refine WL.p rfl rfl rfl (P.ari64 rfl rfl rfl (by omega)) ?_
            refine WL.p rfl rfl rfl (P.move rfl) ?_
            refine WL.nil_ ?_
            refine End.againD (k + 1) ?_ ?_ rfl (Env.sub_cons rfl (Env.sub_nil)) rfl [0, 1] rfl rfl
            · exact ⟨by omega, by rw [range_snoc, hok, altE, hgn, hgm, hs18, hs22, hs25, hc35]; rfl⟩
            · show e.alt.length - (k + 1) < e.alt.length - k; omega
        ·
          refine WL.off rfl rfl ?_
          refine WL.off rfl rfl ?_
          refine WL.off rfl rfl ?_
          refine WL.off rfl rfl ?_
          refine WL.off rfl rfl ?_
          refine WL.off rfl rfl ?_
          refine WL.off rfl rfl ?_
          refine WL.off rfl rfl ?_
          refine WL.p rfl rfl rfl (P.pickF rfl rfl) ?_
          refine WL.p rfl rfl rfl (P.pickF rfl rfl) ?_
          refine WL.nil_ ?_
          refine End.seq ?_
          refine WC.condF rfl ?_
          refine WC.skip ?_
          refine End.blkN ?_
          refine End.seq ?_
          refine WC.region ?_
          refine WL.p rfl rfl rfl (P.ari64 rfl rfl rfl (by omega)) ?_
          refine WL.p rfl rfl rfl (P.move rfl) ?_
          refine WL.nil_ ?_
          refine End.againD (k + 1) ?_ ?_ rfl (Env.sub_cons rfl (Env.sub_nil)) rfl [0, 1] rfl rfl
          · exact ⟨by omega, by rw [range_snoc, hok, altE, hgn, hs18, hs22, hs25]; rfl⟩
          · show e.alt.length - (k + 1) < e.alt.length - k; omega
  ·
    have ek : k = e.alt.length := by have := of_decide_eq_false hc12; omega
    have hokF : altOK e.alt = true := by rw [altOK, ← ek]; exact hok
    refine WC.exit ?_
    refine End.thenX ?_
    refine End.thenX ?_
    refine End.blkX ?_
    refine End.seq ?_
    refine WC.seq ?_
    refine WC.region ?_
    refine WL.p rfl rfl rfl (P.fieldAddr fa_31_3 rfl) ?_
    refine WL.p rfl rfl rfl (P.loadO 0 Tryz.isAgg3 rfl rfl rfl) ?_
    refine WL.p rfl rfl rfl (P.fieldAddr fa_31_4 rfl) ?_
    refine WL.p rfl rfl rfl (P.loadO 0 Tryz.isAgg3 rfl rfl rfl) ?_
    refine WL.p rfl rfl rfl (P.fieldAddr fa_31_5 rfl) ?_
    refine WL.p rfl rfl rfl (P.loadO 0 Tryz.isAgg3 rfl rfl rfl) ?_
    refine WL.p rfl rfl rfl (P.fieldAddr fa_31_6 rfl) ?_
    refine WL.p rfl rfl rfl (P.loadO 0 Tryz.isAgg3 rfl rfl rfl) ?_
    refine WL.p rfl rfl rfl (P.fieldAddr fa_31_7 rfl) ?_
    refine WL.p rfl rfl rfl (P.loadO 0 Tryz.isAgg3 rfl rfl rfl) ?_
    refine WL.p rfl rfl rfl (P.fieldAddr fa_31_8 rfl) ?_
    refine WL.p rfl rfl rfl (P.loadO 0 Tryz.isAgg3 rfl rfl rfl) ?_
    refine WL.p rfl rfl rfl (P.fieldAddr fa_31_9 rfl) ?_
    refine WL.p rfl rfl rfl (P.loadO 0 Tryz.isAgg3 rfl rfl rfl) ?_
    refine WL.p rfl rfl rfl (P.fieldAddr fa_31_10 rfl) ?_
    refine WL.p rfl rfl rfl (P.loadO 0 Tryz.isAgg3 rfl rfl rfl) ?_
    refine WL.p rfl rfl rfl (P.fieldAddr fa_31_11 rfl) ?_
    refine WL.p rfl rfl rfl (P.loadO 0 Tryz.isAgg3 rfl rfl rfl) ?_
    refine WL.p rfl rfl rfl (P.fieldAddr fa_31_12 rfl) ?_
    refine WL.p rfl rfl rfl (P.loadO 0 Tryz.isAgg3 rfl rfl rfl) ?_
    refine WL.p rfl rfl rfl (P.fieldAddr fa_31_13 rfl) ?_
    refine WL.p rfl rfl rfl (P.loadO 0 Tryz.isAgg3 rfl rfl rfl) ?_
    refine WL.row Tryz.underlying22 Tryz.sizeOf3 Tryz.zeroValue3 rfl rfl rfl rfl rfl rfl rfl rfl rfl (fun b59 => ?_)
    refine WL.callv (ent_of Tryz.func201 rfl rfl) rfl rfl rfl (fun w hs => within_any 0 1099511627776 _ _ [e.ds.length, e.ds.block, e.ds.keyAt, e.ds.keyLength, e.ds.interval, e.ds.area, e.ds.freeInterval, e.ds.freeArea, e.ds.base, e.ds.altAt, e.ds.altLength] w (slI_row hs (j := 0) rfl rfl (by simp))) ?_
    refine WL.p rfl rfl rfl (P.move rfl) ?_
    refine WL.split 61 rfl (fun hs61 => ?_) (fun hs61 => ?_)
    ·
      refine WL.p rfl rfl rfl (P.fieldAddr fa_31_0 rfl) ?_
      refine WL.p rfl rfl rfl (P.loadO 1 Tryz.isAgg3 rfl rfl rfl) ?_
      refine WL.row Tryz.underlying22 Tryz.sizeOf3 Tryz.zeroValue3 rfl rfl rfl rfl rfl rfl rfl rfl rfl (fun b64 => ?_)
      refine WL.callv (ent_of Tryz.func201 rfl rfl) rfl rfl rfl (fun w hs => within_any 1 1099511627776 _ _ [e.ds.id] w (slI_row hs (j := 0) rfl rfl (by simp))) ?_
      refine WL.p rfl rfl rfl (P.pickT rfl rfl) ?_
      refine WL.p rfl rfl rfl (P.move rfl) ?_
      refine WL.split 67 rfl (fun hs67 => ?_) (fun hs67 => ?_)
      ·
        refine WL.p rfl rfl rfl (P.fieldAddr fa_31_1 rfl) ?_
        refine WL.p rfl rfl rfl (P.loadO 2 Tryz.isAgg3 rfl rfl rfl) ?_
        refine WL.row Tryz.underlying22 Tryz.sizeOf3 Tryz.zeroValue3 rfl rfl rfl rfl rfl rfl rfl rfl rfl (fun b70 => ?_)
        refine WL.callv (ent_of Tryz.func201 rfl rfl) rfl rfl rfl (fun w hs => within_any 0 3 _ _ [e.ds.org] w (slI_row hs (j := 0) rfl rfl (by simp))) ?_
        refine WL.p rfl rfl rfl (P.pickT rfl rfl) ?_
        refine WL.p rfl rfl rfl (P.move rfl) ?_
        refine WL.split 73 rfl (fun hs73 => ?_) (fun hs73 => ?_)
        ·
          refine WL.p rfl rfl rfl (P.fieldAddr fa_31_2 rfl) ?_
          refine WL.p rfl rfl rfl (P.loadO 3 Tryz.isAgg3 rfl rfl rfl) ?_
          refine WL.row Tryz.underlying22 Tryz.sizeOf3 Tryz.zeroValue3 rfl rfl rfl rfl rfl rfl rfl rfl rfl (fun b76 => ?_)
          refine WL.callv (ent_of Tryz.func201 rfl rfl) rfl rfl rfl (fun w hs => within_any 0 2 _ _ [e.ds.format] w (slI_row hs (j := 0) rfl rfl (by simp))) ?_
          refine WL.p rfl rfl rfl (P.pickT rfl rfl) ?_
          refine WL.p rfl rfl rfl (P.move rfl) ?_
          refine WL.split 79 rfl (fun hs79 => ?_) (fun hs79 => ?_)
          ·
            refine WL.p rfl rfl rfl (P.fieldAddr fa_31_15 rfl) ?_
            refine WL.p rfl rfl rfl (P.loadO 4 Tryz.isAgg3 rfl rfl rfl) ?_
            refine WL.row Tryz.underlying22 Tryz.sizeOf3 Tryz.zeroValue3 rfl rfl rfl rfl rfl rfl rfl rfl rfl (fun b82 => ?_)
            refine WL.callv (ent_of Tryz.func201 rfl rfl) rfl rfl rfl (fun w hs => within_any 0 3 _ _ [e.ds.cls] w (slI_row hs (j := 0) rfl rfl (by simp))) ?_
            refine WL.p rfl rfl rfl (P.pickT rfl rfl) ?_
            refine WL.p rfl rfl rfl (P.move rfl) ?_
            refine WL.split 85 rfl (fun hs85 => ?_) (fun hs85 => ?_)
            ·
              refine WL.p rfl rfl rfl (P.fieldAddr fa_31_16 rfl) ?_
              refine WL.p rfl rfl rfl (P.loadO 5 Tryz.isAgg9 rfl rfl rfl) ?_
              refine WL.p rfl rfl rfl (P.cmps rfl rfl rfl) ?_
              refine WL.p rfl rfl rfl (P.move rfl) ?_
              refine WL.split 89 rfl (fun hs89 => ?_) (fun hs89 => ?_)
              ·
                refine WL.off rfl rfl ?_
                refine WL.off rfl rfl ?_
                refine WL.off rfl rfl ?_
                refine WL.p rfl rfl rfl (P.pickT rfl rfl) ?_
                refine WL.p rfl rfl rfl (P.pickT rfl rfl) ?_
                refine WL.p rfl rfl rfl (P.move rfl) ?_
                refine WL.p rfl rfl rfl (P.fieldAddr fa_31_17 rfl) ?_
                refine WL.p rfl rfl rfl (P.loadO 5 Tryz.isAgg9 rfl rfl rfl) ?_
                refine WL.p rfl rfl rfl (P.cmps rfl rfl rfl) ?_
                refine WL.p rfl rfl rfl (P.move rfl) ?_
                refine WL.split 99 rfl (fun hs99 => ?_) (fun hs99 => ?_)
                ·
                  refine WL.off rfl rfl ?_
                  refine WL.off rfl rfl ?_
                  refine WL.off rfl rfl ?_
                  refine WL.p rfl rfl rfl (P.pickT rfl rfl) ?_
                  refine WL.p rfl rfl rfl (P.pickT rfl rfl) ?_
                  refine WL.p rfl rfl rfl (P.move rfl) ?_
                  refine WL.p rfl rfl rfl (P.fieldAddr fa_31_18 rfl) ?_
                  refine WL.p rfl rfl rfl (P.loadO 5 Tryz.isAgg3 rfl rfl rfl) ?_
                  refine WL.p rfl rfl rfl (P.fieldAddr fa_31_19 rfl) ?_
                  refine WL.p rfl rfl rfl (P.loadO 5 Tryz.isAgg3 rfl rfl rfl) ?_
                  refine WL.p rfl rfl rfl (P.fieldAddr fa_34_4 rfl) ?_
                  refine WL.p rfl rfl rfl (P.loadO 6 Tryz.isAgg3 rfl rfl rfl) ?_
                  refine WL.row Tryz.underlying22 Tryz.sizeOf3 Tryz.zeroValue3 rfl rfl rfl rfl rfl rfl rfl rfl rfl (fun b112 => ?_)
                  refine WL.callv (ent_of Tryz.func264 rfl rfl) rfl rfl rfl (fun w hs => day_any _ _ [e.ds.created, e.ds.expires, e.used] w (hg.st hs) (slI_row hs (j := 0) rfl rfl (by simp))) ?_
                  refine WL.p rfl rfl rfl (P.pickT rfl rfl) ?_
                  refine WL.p rfl rfl rfl (P.move rfl) ?_
                  refine WL.split 115 rfl (fun hs115 => ?_) (fun hs115 => ?_)
                  ·
                    refine WL.p rfl rfl rfl (P.fieldAddr fa_34_3 rfl) ?_
                    refine WL.p rfl rfl rfl (P.loadO 7 Tryz.isAgg22 rfl rfl rfl) ?_
                    refine WL.p rfl rfl rfl (P.lenR Tryz.underlying22 rfl) ?_
                    refine WL.p rfl rfl rfl (P.cmp rfl rfl rfl) ?_
                    refine WL.p rfl rfl rfl (P.pickT rfl rfl) ?_
                    refine WL.p rfl rfl rfl (P.assign rfl) ?_
                    refine WL.nil_ ?_
                    refine End.seq ?_
                    refine WC.ret ?_
                    refine End.ret1 rfl rfl ?_
                    exact fun w' hs' => RetV.of (by rw [dataOK, hokF]; simp only [*, Bool.true_and, Bool.false_and, Bool.true_or, Bool.false_or]) hs'
                  ·
                    refine WL.off rfl rfl ?_
                    refine WL.off rfl rfl ?_
                    refine WL.off rfl rfl ?_
                    refine WL.off rfl rfl ?_
                    refine WL.p rfl rfl rfl (P.pickF rfl rfl) ?_
                    refine WL.p rfl rfl rfl (P.assign rfl) ?_
                    refine WL.nil_ ?_
                    refine End.seq ?_
                    refine WC.ret ?_
                    refine End.ret1 rfl rfl ?_
                    exact fun w' hs' => RetV.of (by rw [dataOK, hokF]; simp only [*, Bool.true_and, Bool.false_and, Bool.true_or, Bool.false_or]) hs'
                ·
                  refine WL.p rfl rfl rfl (P.fieldAddr fa_31_17 rfl) ?_
                  refine WL.p rfl rfl rfl (P.loadO 5 Tryz.isAgg9 rfl rfl rfl) ?_
                  refine WL.callv (ent_of Tryz.func202 rfl rfl) rfl rfl rfl (fun w hs => word_any _ w (hg.st hs)) ?_
                  refine WL.p rfl rfl rfl (P.pickF rfl rfl) ?_
                  refine WL.p rfl rfl rfl (P.pickT rfl rfl) ?_
                  refine WL.p rfl rfl rfl (P.move rfl) ?_
                  refine WL.split 105 rfl (fun hs105 => ?_) (fun hs105 => ?_)
                  ·
                    refine WL.p rfl rfl rfl (P.fieldAddr fa_31_18 rfl) ?_
                    refine WL.p rfl rfl rfl (P.loadO 5 Tryz.isAgg3 rfl rfl rfl) ?_
                    refine WL.p rfl rfl rfl (P.fieldAddr fa_31_19 rfl) ?_
                    refine WL.p rfl rfl rfl (P.loadO 5 Tryz.isAgg3 rfl rfl rfl) ?_
                    refine WL.p rfl rfl rfl (P.fieldAddr fa_34_4 rfl) ?_
                    refine WL.p rfl rfl rfl (P.loadO 6 Tryz.isAgg3 rfl rfl rfl) ?_
                    refine WL.row Tryz.underlying22 Tryz.sizeOf3 Tryz.zeroValue3 rfl rfl rfl rfl rfl rfl rfl rfl rfl (fun b112 => ?_)
                    refine WL.callv (ent_of Tryz.func264 rfl rfl) rfl rfl rfl (fun w hs => day_any _ _ [e.ds.created, e.ds.expires, e.used] w (hg.st hs) (slI_row hs (j := 0) rfl rfl (by simp))) ?_
                    refine WL.p rfl rfl rfl (P.pickT rfl rfl) ?_
                    refine WL.p rfl rfl rfl (P.move rfl) ?_
                    refine WL.split 115 rfl (fun hs115 => ?_) (fun hs115 => ?_)
                    ·
                      refine WL.p rfl rfl rfl (P.fieldAddr fa_34_3 rfl) ?_
                      refine WL.p rfl rfl rfl (P.loadO 7 Tryz.isAgg22 rfl rfl rfl) ?_
                      refine WL.p rfl rfl rfl (P.lenR Tryz.underlying22 rfl) ?_
                      refine WL.p rfl rfl rfl (P.cmp rfl rfl rfl) ?_
                      refine WL.p rfl rfl rfl (P.pickT rfl rfl) ?_
                      refine WL.p rfl rfl rfl (P.assign rfl) ?_
                      refine WL.nil_ ?_
                      refine End.seq ?_
                      refine WC.ret ?_
                      refine End.ret1 rfl rfl ?_
                      exact fun w' hs' => RetV.of (by rw [dataOK, hokF]; simp only [*, Bool.true_and, Bool.false_and, Bool.true_or, Bool.false_or]) hs'
                    ·
                      refine WL.off rfl rfl ?_
                      refine WL.off rfl rfl ?_
                      refine WL.off rfl rfl ?_
                      refine WL.off rfl rfl ?_
                      refine WL.p rfl rfl rfl (P.pickF rfl rfl) ?_
                      refine WL.p rfl rfl rfl (P.assign rfl) ?_
                      refine WL.nil_ ?_
                      refine End.seq ?_
                      refine WC.ret ?_
                      refine End.ret1 rfl rfl ?_
                      exact fun w' hs' => RetV.of (by rw [dataOK, hokF]; simp only [*, Bool.true_and, Bool.false_and, Bool.true_or, Bool.false_or]) hs'
                  ·
                    refine WL.off rfl rfl ?_
                    refine WL.off rfl rfl ?_
                    refine WL.off rfl rfl ?_
                    refine WL.off rfl rfl ?_
                    refine WL.off rfl rfl ?_
                    refine WL.off rfl rfl ?_
                    refine WL.off rfl rfl ?_
                    refine WL.off rfl rfl ?_
                    refine WL.p rfl rfl rfl (P.pickF rfl rfl) ?_
                    refine WL.p rfl rfl rfl (P.move rfl) ?_
                    refine WL.off rfl rfl ?_
                    refine WL.off rfl rfl ?_
                    refine WL.off rfl rfl ?_
                    refine WL.off rfl rfl ?_
                    refine WL.p rfl rfl rfl (P.pickF rfl rfl) ?_
                    refine WL.p rfl rfl rfl (P.assign rfl) ?_
                    refine WL.nil_ ?_
                    refine End.seq ?_
                    refine WC.ret ?_
                    refine End.ret1 rfl rfl ?_
                    exact fun w' hs' => RetV.of (by rw [dataOK, hokF]; simp only [*, Bool.true_and, Bool.false_and, Bool.true_or, Bool.false_or]) hs'
              ·
                refine WL.p rfl rfl rfl (P.fieldAddr fa_31_16 rfl) ?_
                refine WL.p rfl rfl rfl (P.loadO 5 Tryz.isAgg9 rfl rfl rfl) ?_
                refine WL.callv (ent_of Tryz.func202 rfl rfl) rfl rfl rfl (fun w hs => word_any _ w (hg.st hs)) ?_
                refine WL.p rfl rfl rfl (P.pickF rfl rfl) ?_
                refine WL.p rfl rfl rfl (P.pickT rfl rfl) ?_
                refine WL.p rfl rfl rfl (P.move rfl) ?_
                refine WL.split 95 rfl (fun hs95 => ?_) (fun hs95 => ?_)
                ·
                  refine WL.p rfl rfl rfl (P.fieldAddr fa_31_17 rfl) ?_
                  refine WL.p rfl rfl rfl (P.loadO 5 Tryz.isAgg9 rfl rfl rfl) ?_
                  refine WL.p rfl rfl rfl (P.cmps rfl rfl rfl) ?_
                  refine WL.p rfl rfl rfl (P.move rfl) ?_
                  refine WL.split 99 rfl (fun hs99 => ?_) (fun hs99 => ?_)
                  ·
                    refine WL.off rfl rfl ?_
                    refine WL.off rfl rfl ?_
                    refine WL.off rfl rfl ?_
                    refine WL.p rfl rfl rfl (P.pickT rfl rfl) ?_
                    refine WL.p rfl rfl rfl (P.pickT rfl rfl) ?_
                    refine WL.p rfl rfl rfl (P.move rfl) ?_
                    refine WL.p rfl rfl rfl (P.fieldAddr fa_31_18 rfl) ?_
                    refine WL.p rfl rfl rfl (P.loadO 5 Tryz.isAgg3 rfl rfl rfl) ?_
                    refine WL.p rfl rfl rfl (P.fieldAddr fa_31_19 rfl) ?_
                    refine WL.p rfl rfl rfl (P.loadO 5 Tryz.isAgg3 rfl rfl rfl) ?_
                    refine WL.p rfl rfl rfl (P.fieldAddr fa_34_4 rfl) ?_
                    refine WL.p rfl rfl rfl (P.loadO 6 Tryz.isAgg3 rfl rfl rfl) ?_
                    refine WL.row Tryz.underlying22 Tryz.sizeOf3 Tryz.zeroValue3 rfl rfl rfl rfl rfl rfl rfl rfl rfl (fun b112 => ?_)
                    refine WL.callv (ent_of Tryz.func264 rfl rfl) rfl rfl rfl (fun w hs => day_any _ _ [e.ds.created, e.ds.expires, e.used] w (hg.st hs) (slI_row hs (j := 0) rfl rfl (by simp))) ?_
                    refine WL.p rfl rfl rfl (P.pickT rfl rfl) ?_
                    refine WL.p rfl rfl rfl (P.move rfl) ?_
                    refine WL.split 115 rfl (fun hs115 => ?_) (fun hs115 => ?_)
                    ·
                      refine WL.p rfl rfl rfl (P.fieldAddr fa_34_3 rfl) ?_
                      refine WL.p rfl rfl rfl (P.loadO 7 Tryz.isAgg22 rfl rfl rfl) ?_
                      refine WL.p rfl rfl rfl (P.lenR Tryz.underlying22 rfl) ?_
                      refine WL.p rfl rfl rfl (P.cmp rfl rfl rfl) ?_
                      refine WL.p rfl rfl rfl (P.pickT rfl rfl) ?_
                      refine WL.p rfl rfl rfl (P.assign rfl) ?_
                      refine WL.nil_ ?_
                      refine End.seq ?_
                      refine WC.ret ?_
                      refine End.ret1 rfl rfl ?_
                      exact fun w' hs' => RetV.of (by rw [dataOK, hokF]; simp only [*, Bool.true_and, Bool.false_and, Bool.true_or, Bool.false_or]) hs'
                    ·
                      refine WL.off rfl rfl ?_
                      refine WL.off rfl rfl ?_
                      refine WL.off rfl rfl ?_
                      refine WL.off rfl rfl ?_
                      refine WL.p rfl rfl rfl (P.pickF rfl rfl) ?_
                      refine WL.p rfl rfl rfl (P.assign rfl) ?_
                      refine WL.nil_ ?_
                      refine End.seq ?_
                      refine WC.ret ?_
                      refine End.ret1 rfl rfl ?_
                      exact fun w' hs' => RetV.of (by rw [dataOK, hokF]; simp only [*, Bool.true_and, Bool.false_and, Bool.true_or, Bool.false_or]) hs'
                  ·
                    refine WL.p rfl rfl rfl (P.fieldAddr fa_31_17 rfl) ?_
                    refine WL.p rfl rfl rfl (P.loadO 5 Tryz.isAgg9 rfl rfl rfl) ?_
                    refine WL.callv (ent_of Tryz.func202 rfl rfl) rfl rfl rfl (fun w hs => word_any _ w (hg.st hs)) ?_
                    refine WL.p rfl rfl rfl (P.pickF rfl rfl) ?_
                    refine WL.p rfl rfl rfl (P.pickT rfl rfl) ?_
                    refine WL.p rfl rfl rfl (P.move rfl) ?_
                    refine WL.split 105 rfl (fun hs105 => ?_) (fun hs105 => ?_)
                    ·
                      refine WL.p rfl rfl rfl (P.fieldAddr fa_31_18 rfl) ?_
                      refine WL.p rfl rfl rfl (P.loadO 5 Tryz.isAgg3 rfl rfl rfl) ?_
                      refine WL.p rfl rfl rfl (P.fieldAddr fa_31_19 rfl) ?_
                      refine WL.p rfl rfl rfl (P.loadO 5 Tryz.isAgg3 rfl rfl rfl) ?_
                      refine WL.p rfl rfl rfl (P.fieldAddr fa_34_4 rfl) ?_
                      refine WL.p rfl rfl rfl (P.loadO 6 Tryz.isAgg3 rfl rfl rfl) ?_
                      refine WL.row Tryz.underlying22 Tryz.sizeOf3 Tryz.zeroValue3 rfl rfl rfl rfl rfl rfl rfl rfl rfl (fun b112 => ?_)
                      refine WL.callv (ent_of Tryz.func264 rfl rfl) rfl rfl rfl (fun w hs => day_any _ _ [e.ds.created, e.ds.expires, e.used] w (hg.st hs) (slI_row hs (j := 0) rfl rfl (by simp))) ?_
                      refine WL.p rfl rfl rfl (P.pickT rfl rfl) ?_
                      refine WL.p rfl rfl rfl (P.move rfl) ?_
                      refine WL.split 115 rfl (fun hs115 => ?_) (fun hs115 => ?_)
                      ·
                        refine WL.p rfl rfl rfl (P.fieldAddr fa_34_3 rfl) ?_
                        refine WL.p rfl rfl rfl (P.loadO 7 Tryz.isAgg22 rfl rfl rfl) ?_
                        refine WL.p rfl rfl rfl (P.lenR Tryz.underlying22 rfl) ?_
                        refine WL.p rfl rfl rfl (P.cmp rfl rfl rfl) ?_
                        refine WL.p rfl rfl rfl (P.pickT rfl rfl) ?_
                        refine WL.p rfl rfl rfl (P.assign rfl) ?_
                        refine WL.nil_ ?_
                        refine End.seq ?_
                        refine WC.ret ?_
                        refine End.ret1 rfl rfl ?_
                        exact fun w' hs' => RetV.of (by rw [dataOK, hokF]; simp only [*, Bool.true_and, Bool.false_and, Bool.true_or, Bool.false_or]) hs'
                      ·
                        refine WL.off rfl rfl ?_
                        refine WL.off rfl rfl ?_
                        refine WL.off rfl rfl ?_
                        refine WL.off rfl rfl ?_
                        refine WL.p rfl rfl rfl (P.pickF rfl rfl) ?_
                        refine WL.p rfl rfl rfl (P.assign rfl) ?_
                        refine WL.nil_ ?_
                        refine End.seq ?_
                        refine WC.ret ?_
                        refine End.ret1 rfl rfl ?_
                        exact fun w' hs' => RetV.of (by rw [dataOK, hokF]; simp only [*, Bool.true_and, Bool.false_and, Bool.true_or, Bool.false_or]) hs'
                    ·
                      refine WL.off rfl rfl ?_
                      refine WL.off rfl rfl ?_
                      refine WL.off rfl rfl ?_
                      refine WL.off rfl rfl ?_
                      refine WL.off rfl rfl ?_
                      refine WL.off rfl rfl ?_
                      refine WL.off rfl rfl ?_
                      refine WL.off rfl rfl ?_
                      refine WL.p rfl rfl rfl (P.pickF rfl rfl) ?_
                      refine WL.p rfl rfl rfl (P.move rfl) ?_
                      refine WL.off rfl rfl ?_
                      refine WL.off rfl rfl ?_
                      refine WL.off rfl rfl ?_
                      refine WL.off rfl rfl ?_
                      refine WL.p rfl rfl rfl (P.pickF rfl rfl) ?_
                      refine WL.p rfl rfl rfl (P.assign rfl) ?_
                      refine WL.nil_ ?_
                      refine End.seq ?_
                      refine WC.ret ?_
                      refine End.ret1 rfl rfl ?_
                      exact fun w' hs' => RetV.of (by rw [dataOK, hokF]; simp only [*, Bool.true_and, Bool.false_and, Bool.true_or, Bool.false_or]) hs'
                ·
                  refine WL.off rfl rfl ?_
                  refine WL.off rfl rfl ?_
                  refine WL.off rfl rfl ?_
                  refine WL.off rfl rfl ?_
                  refine WL.offU rfl rfl ?_
                  refine WL.offU rfl rfl ?_
                  refine WL.offU rfl rfl ?_
                  refine WL.off rfl rfl ?_
                  refine WL.p rfl rfl rfl (P.pickF rfl rfl) ?_
                  refine WL.p rfl rfl rfl (P.move rfl) ?_
                  refine WL.off rfl rfl ?_
                  refine WL.off rfl rfl ?_
                  refine WL.off rfl rfl ?_
                  refine WL.off rfl rfl ?_
                  refine WL.off rfl rfl ?_
                  refine WL.off rfl rfl ?_
                  refine WL.off rfl rfl ?_
                  refine WL.off rfl rfl ?_
                  refine WL.p rfl rfl rfl (P.pickF rfl rfl) ?_
                  refine WL.p rfl rfl rfl (P.move rfl) ?_
                  refine WL.off rfl rfl ?_
                  refine WL.off rfl rfl ?_
                  refine WL.off rfl rfl ?_
                  refine WL.off rfl rfl ?_
                  refine WL.p rfl rfl rfl (P.pickF rfl rfl) ?_
                  refine WL.p rfl rfl rfl (P.assign rfl) ?_
                  refine WL.nil_ ?_
                  refine End.seq ?_
                  refine WC.ret ?_
                  refine End.ret1 rfl rfl ?_
                  exact fun w' hs' => RetV.of (by rw [dataOK, hokF]; simp only [*, Bool.true_and, Bool.false_and, Bool.true_or, Bool.false_or]) hs'
            ·
              refine WL.off rfl rfl ?_
              refine WL.off rfl rfl ?_
              refine WL.off rfl rfl ?_
              refine WL.off rfl rfl ?_
              refine WL.offU rfl rfl ?_
              refine WL.offU rfl rfl ?_
              refine WL.offU rfl rfl ?_
              refine WL.off rfl rfl ?_
              refine WL.p rfl rfl rfl (P.pickF rfl rfl) ?_
              refine WL.p rfl rfl rfl (P.move rfl) ?_
              refine WL.off rfl rfl ?_
              refine WL.off rfl rfl ?_
              refine WL.off rfl rfl ?_
              refine WL.off rfl rfl ?_
              refine WL.offU rfl rfl ?_
              refine WL.offU rfl rfl ?_
              refine WL.offU rfl rfl ?_
              refine WL.off rfl rfl ?_
              refine WL.p rfl rfl rfl (P.pickF rfl rfl) ?_
              refine WL.p rfl rfl rfl (P.move rfl) ?_
              refine WL.off rfl rfl ?_
              refine WL.off rfl rfl ?_
              refine WL.off rfl rfl ?_
              refine WL.off rfl rfl ?_
              refine WL.off rfl rfl ?_
              refine WL.off rfl rfl ?_
              refine WL.off rfl rfl ?_
              refine WL.off rfl rfl ?_
              refine WL.p rfl rfl rfl (P.pickF rfl rfl) ?_
              refine WL.p rfl rfl rfl (P.move rfl) ?_
              refine WL.off rfl rfl ?_
              refine WL.off rfl rfl ?_
              refine WL.off rfl rfl ?_
              refine WL.off rfl rfl ?_
              refine WL.p rfl rfl rfl (P.pickF rfl rfl) ?_
              refine WL.p rfl rfl rfl (P.assign rfl) ?_
              refine WL.nil_ ?_
              refine End.seq ?_
              refine WC.ret ?_
              refine End.ret1 rfl rfl ?_
              exact fun w' hs' => RetV.of (by rw [dataOK, hokF]; simp only [*, Bool.true_and, Bool.false_and, Bool.true_or, Bool.false_or]) hs'
          ·
            refine WL.off rfl rfl ?_
            refine WL.off rfl rfl ?_
            refine WL.off rfl rfl ?_
            refine WL.off rfl rfl ?_
            refine WL.p rfl rfl rfl (P.pickF rfl rfl) ?_
            refine WL.p rfl rfl rfl (P.move rfl) ?_
            refine WL.off rfl rfl ?_
            refine WL.off rfl rfl ?_
            refine WL.off rfl rfl ?_
            refine WL.off rfl rfl ?_
            refine WL.offU rfl rfl ?_
            refine WL.offU rfl rfl ?_
            refine WL.offU rfl rfl ?_
            refine WL.off rfl rfl ?_
            refine WL.p rfl rfl rfl (P.pickF rfl rfl) ?_
            refine WL.p rfl rfl rfl (P.move rfl) ?_
            refine WL.off rfl rfl ?_
            refine WL.off rfl rfl ?_
            refine WL.off rfl rfl ?_
            refine WL.off rfl rfl ?_
            refine WL.offU rfl rfl ?_
            refine WL.offU rfl rfl ?_
            refine WL.offU rfl rfl ?_
            refine WL.off rfl rfl ?_
            refine WL.p rfl rfl rfl (P.pickF rfl rfl) ?_
            refine WL.p rfl rfl rfl (P.move rfl) ?_
            refine WL.off rfl rfl ?_
            refine WL.off rfl rfl ?_
            refine WL.off rfl rfl ?_
            refine WL.off rfl rfl ?_
            refine WL.off rfl rfl ?_
            refine WL.off rfl rfl ?_
            refine WL.off rfl rfl ?_
            refine WL.off rfl rfl ?_
            refine WL.p rfl rfl rfl (P.pickF rfl rfl) ?_
            refine WL.p rfl rfl rfl (P.move rfl) ?_
            refine WL.off rfl rfl ?_
            refine WL.off rfl rfl ?_
            refine WL.off rfl rfl ?_
            refine WL.off rfl rfl ?_
            refine WL.p rfl rfl rfl (P.pickF rfl rfl) ?_
            refine WL.p rfl rfl rfl (P.assign rfl) ?_
            refine WL.nil_ ?_
            refine End.seq ?_
            refine WC.ret ?_
            refine End.ret1 rfl rfl ?_
            exact fun w' hs' => RetV.of (by rw [dataOK, hokF]; simp only [*, Bool.true_and, Bool.false_and, Bool.true_or, Bool.false_or]) hs'
        ·
          refine WL.off rfl rfl ?_
          refine WL.off rfl rfl ?_
          refine WL.off rfl rfl ?_
          refine WL.off rfl rfl ?_
          refine WL.p rfl rfl rfl (P.pickF rfl rfl) ?_
          refine WL.p rfl rfl rfl (P.move rfl) ?_
          refine WL.off rfl rfl ?_
          refine WL.off rfl rfl ?_
          refine WL.off rfl rfl ?_
          refine WL.off rfl rfl ?_
          refine WL.p rfl rfl rfl (P.pickF rfl rfl) ?_
          refine WL.p rfl rfl rfl (P.move rfl) ?_
          refine WL.off rfl rfl ?_
          refine WL.off rfl rfl ?_
          refine WL.off rfl rfl ?_
          refine WL.off rfl rfl ?_
          refine WL.offU rfl rfl ?_
          refine WL.offU rfl rfl ?_
          refine WL.offU rfl rfl ?_
          refine WL.off rfl rfl ?_
          refine WL.p rfl rfl rfl (P.pickF rfl rfl) ?_
          refine WL.p rfl rfl rfl (P.move rfl) ?_
          refine WL.off rfl rfl ?_
          refine WL.off rfl rfl ?_
          refine WL.off rfl rfl ?_
          refine WL.off rfl rfl ?_
          refine WL.offU rfl rfl ?_
          refine WL.offU rfl rfl ?_
          refine WL.offU rfl rfl ?_
          refine WL.off rfl rfl ?_
          refine WL.p rfl rfl rfl (P.pickF rfl rfl) ?_
          refine WL.p rfl rfl rfl (P.move rfl) ?_
          refine WL.off rfl rfl ?_
          refine WL.off rfl rfl ?_
          refine WL.off rfl rfl ?_
          refine WL.off rfl rfl ?_
          refine WL.off rfl rfl ?_
          refine WL.off rfl rfl ?_
          refine WL.off rfl rfl ?_
          refine WL.off rfl rfl ?_
          refine WL.p rfl rfl rfl (P.pickF rfl rfl) ?_
          refine WL.p rfl rfl rfl (P.move rfl) ?_
          refine WL.off rfl rfl ?_
          refine WL.off rfl rfl ?_
          refine WL.off rfl rfl ?_
          refine WL.off rfl rfl ?_
          refine WL.p rfl rfl rfl (P.pickF rfl rfl) ?_
          refine WL.p rfl rfl rfl (P.assign rfl) ?_
          refine WL.nil_ ?_
          refine End.seq ?_
          refine WC.ret ?_
          refine End.ret1 rfl rfl ?_
          exact fun w' hs' => RetV.of (by rw [dataOK, hokF]; simp only [*, Bool.true_and, Bool.false_and, Bool.true_or, Bool.false_or]) hs'
      ·
        refine WL.off rfl rfl ?_
        refine WL.off rfl rfl ?_
        refine WL.off rfl rfl ?_
        refine WL.off rfl rfl ?_
        refine WL.p rfl rfl rfl (P.pickF rfl rfl) ?_
        refine WL.p rfl rfl rfl (P.move rfl) ?_
        refine WL.off rfl rfl ?_
        refine WL.off rfl rfl ?_
        refine WL.off rfl rfl ?_
        refine WL.off rfl rfl ?_
        refine WL.p rfl rfl rfl (P.pickF rfl rfl) ?_
        refine WL.p rfl rfl rfl (P.move rfl) ?_
        refine WL.off rfl rfl ?_
        refine WL.off rfl rfl ?_
        refine WL.off rfl rfl ?_
        refine WL.off rfl rfl ?_
        refine WL.p rfl rfl rfl (P.pickF rfl rfl) ?_
        refine WL.p rfl rfl rfl (P.move rfl) ?_
        refine WL.off rfl rfl ?_
        refine WL.off rfl rfl ?_
        refine WL.off rfl rfl ?_
        refine WL.off rfl rfl ?_
        refine WL.offU rfl rfl ?_
        refine WL.offU rfl rfl ?_
        refine WL.offU rfl rfl ?_
        refine WL.off rfl rfl ?_
        refine WL.p rfl rfl rfl (P.pickF rfl rfl) ?_
        refine WL.p rfl rfl rfl (P.move rfl) ?_
        refine WL.off rfl rfl ?_
        refine WL.off rfl rfl ?_
        refine WL.off rfl rfl ?_
        refine WL.off rfl rfl ?_
        refine WL.offU rfl rfl ?_
        refine WL.offU rfl rfl ?_
        refine WL.offU rfl rfl ?_
        refine WL.off rfl rfl ?_
        refine WL.p rfl rfl rfl (P.pickF rfl rfl) ?_
        refine WL.p rfl rfl rfl (P.move rfl) ?_
        refine WL.off rfl rfl ?_
        refine WL.off rfl rfl ?_
        refine WL.off rfl rfl ?_
        refine WL.off rfl rfl ?_
        refine WL.off rfl rfl ?_
        refine WL.off rfl rfl ?_
        refine WL.off rfl rfl ?_
        refine WL.off rfl rfl ?_
        refine WL.p rfl rfl rfl (P.pickF rfl rfl) ?_
        refine WL.p rfl rfl rfl (P.move rfl) ?_
        refine WL.off rfl rfl ?_
        refine WL.off rfl rfl ?_
        refine WL.off rfl rfl ?_
        refine WL.off rfl rfl ?_
        refine WL.p rfl rfl rfl (P.pickF rfl rfl) ?_
        refine WL.p rfl rfl rfl (P.assign rfl) ?_
        refine WL.nil_ ?_
        refine End.seq ?_
        refine WC.ret ?_
        refine End.ret1 rfl rfl ?_
        exact fun w' hs' => RetV.of (by rw [dataOK, hokF]; simp only [*, Bool.true_and, Bool.false_and, Bool.true_or, Bool.false_or]) hs'
    ·
      refine WL.off rfl rfl ?_
      refine WL.off rfl rfl ?_
      refine WL.off rfl rfl ?_
      refine WL.off rfl rfl ?_
      refine WL.p rfl rfl rfl (P.pickF rfl rfl) ?_
      refine WL.p rfl rfl rfl (P.move rfl) ?_
      refine WL.off rfl rfl ?_
      refine WL.off rfl rfl ?_
      refine WL.off rfl rfl ?_
      refine WL.off rfl rfl ?_
      refine WL.p rfl rfl rfl (P.pickF rfl rfl) ?_
      refine WL.p rfl rfl rfl (P.move rfl) ?_
      refine WL.off rfl rfl ?_
      refine WL.off rfl rfl ?_
      refine WL.off rfl rfl ?_
      refine WL.off rfl rfl ?_
      refine WL.p rfl rfl rfl (P.pickF rfl rfl) ?_
      refine WL.p rfl rfl rfl (P.move rfl) ?_
      refine WL.off rfl rfl ?_
      refine WL.off rfl rfl ?_
      refine WL.off rfl rfl ?_
      refine WL.off rfl rfl ?_
      refine WL.p rfl rfl rfl (P.pickF rfl rfl) ?_
      refine WL.p rfl rfl rfl (P.move rfl) ?_
      refine WL.off rfl rfl ?_
      refine WL.off rfl rfl ?_
      refine WL.off rfl rfl ?_
      refine WL.off rfl rfl ?_
      refine WL.offU rfl rfl ?_
      refine WL.offU rfl rfl ?_
      refine WL.offU rfl rfl ?_
      refine WL.off rfl rfl ?_
      refine WL.p rfl rfl rfl (P.pickF rfl rfl) ?_
      refine WL.p rfl rfl rfl (P.move rfl) ?_
      refine WL.off rfl rfl ?_
      refine WL.off rfl rfl ?_
      refine WL.off rfl rfl ?_
      refine WL.off rfl rfl ?_
      refine WL.offU rfl rfl ?_
      refine WL.offU rfl rfl ?_
      refine WL.offU rfl rfl ?_
      refine WL.off rfl rfl ?_
      refine WL.p rfl rfl rfl (P.pickF rfl rfl) ?_
      refine WL.p rfl rfl rfl (P.move rfl) ?_
      refine WL.off rfl rfl ?_
      refine WL.off rfl rfl ?_
      refine WL.off rfl rfl ?_
      refine WL.off rfl rfl ?_
      refine WL.off rfl rfl ?_
      refine WL.off rfl rfl ?_
      refine WL.off rfl rfl ?_
      refine WL.off rfl rfl ?_
      refine WL.p rfl rfl rfl (P.pickF rfl rfl) ?_
      refine WL.p rfl rfl rfl (P.move rfl) ?_
      refine WL.off rfl rfl ?_
      refine WL.off rfl rfl ?_
      refine WL.off rfl rfl ?_
      refine WL.off rfl rfl ?_
      refine WL.p rfl rfl rfl (P.pickF rfl rfl) ?_
      refine WL.p rfl rfl rfl (P.assign rfl) ?_
      refine WL.nil_ ?_
      refine End.seq ?_
      refine WC.ret ?_
      refine End.ret1 rfl rfl ?_
      exact fun w' hs' => RetV.of (by rw [dataOK, hokF]; simp only [*, Bool.true_and, Bool.false_and, Bool.true_or, Bool.false_or]) hs'

end Go.Proofs.YtlkkiimmangplaaGreatDoor

/- The kind of data sets; the five kinds together. -/
namespace Go.Proofs.YtlkkiimmangplaaGreatDoor
open Go.RowKit
set_option linter.unusedVariables false
set_option linter.unusedSimpArgs false
def nX : Nat → Rd → Rd
  | 0, x => x
  | k + 1, x => (nX k x).num.2
/-- The description of a data set, as it is read. -/
def dsRd (x : Rd) : DS := { id := clampN (nX 0 x).num.1, org := clampN (nX 1 x).num.1, format := clampN (nX 2 x).num.1, length := clampN (nX 3 x).num.1, block := clampN (nX 4 x).num.1, keyAt := clampN (nX 5 x).num.1, keyLength := clampN (nX 6 x).num.1, interval := clampN (nX 7 x).num.1, area := clampN (nX 8 x).num.1, freeInterval := clampN (nX 9 x).num.1, freeArea := clampN (nX 10 x).num.1, base := clampN (nX 11 x).num.1, altAt := clampN (nX 12 x).num.1, altLength := clampN (nX 13 x).num.1, unique := (dY1 x).bool.1, cls := clampN (dY1 x).bool.2.num.1, volume := ((dY1 x).bool.2.num.2.text 200).1, owner := (((dY1 x).bool.2.num.2.text 200).2.text 200).1, created := clampN (dY4 x).num.1, expires := clampN (dY4 x).num.2.num.1, archived := (dY7 x).bool.1 }
def dat : KF where
  kind := 0
  L := 68
  N := 76
  g := 194
  V := 195
  nm := nameB
  ok := dataOK
  out := dsOut
  rd := fun e x => ({ e with ds := dsRd x, alt := (dA x).1, used := clampN (dA x).2.num.1 }, (dA x).2.num.2)
  it := fun s e => aIt s e.alt
  va := fun s e => gVal s e.alt.length
  vg := fun _ _ => vnil
set_option maxHeartbeats 1000000 in
set_option maxRecDepth 100000 in
theorem dC_cells (e : E) (x : Rd) (v : Value) : dC (e.cells vnil vnil) x v = ({ e with ds := dsRd x, alt := (dA x).1, used := clampN (dA x).2.num.1 } : E).cells v vnil := by
  simp only [dC, dC8, insN, List.foldl_cons, List.foldl_nil, E.set2, E.set3, E.set4, E.set5, E.set6, E.set7, E.set8, E.set9, E.set10, E.set11, E.set12, E.set13, E.set14, E.set15, E.set16, E.set17, E.set18, E.set19, E.set20, E.set21, E.set22, E.set23, E.set24]
  rfl
theorem owner_size2 {s : ByteArray} (h : (s.toList == (⟨#[]⟩ : ByteArray).toList || wordB s) = true) : s.size ≤ 31 := by
  rw [toList_beq] at h
  exact owner_size h
theorem inB_mem {lo hi : Int} {l : List Int} (h : inB lo hi l = true) : ∀ x ∈ l, lo ≤ x ∧ x ≤ hi := fun x hx => by
  unfold inB at h
  rw [Bool.and_eq_true, List.all_eq_true, List.all_eq_true] at h
  exact ⟨of_decide_eq_true (h.1 x hx), of_decide_eq_true (h.2 x hx)⟩
theorem altOK_mem {l : List Int} (h : altOK l = true) : ∀ x ∈ l, 1 ≤ x ∧ x ≤ 1099511627776 := fun x hx => by
  obtain ⟨i, hi⟩ := List.mem_iff_getElem?.1 hx
  have hlt := (List.getElem?_eq_some_iff.1 hi).1
  unfold altOK at h
  have h1 := List.all_eq_true.1 h i (List.mem_range.2 hlt)
  unfold altE at h1
  rw [getD_ofI hi] at h1
  simp only [Bool.and_eq_true, Bool.not_eq_true', decide_eq_false_iff_not] at h1
  omega
theorem dataOK_lim {e : E} (h : dataOK e = true) : (∀ x ∈ e.alt, 1 ≤ x ∧ x ≤ 1099511627776) ∧ (∀ x ∈ dsNums e, 0 ≤ x ∧ x ≤ 1099511627776) ∧ (0 ≤ e.ds.cls ∧ e.ds.cls ≤ 3) ∧ e.ds.volume.size ≤ 31 ∧ e.ds.owner.size ≤ 31 ∧ (∀ x ∈ [e.ds.created, e.ds.expires, e.used], 0 ≤ x ∧ x ≤ 65536) ∧ e.alt.length ≤ 4 := by
  unfold dataOK at h
  simp only [Bool.and_eq_true] at h
  obtain ⟨h0, h1, h2, h3, h4, h5, h6, h7, h8, h9⟩ := h
  have g2 := inB_one h2
  have g3 := inB_one h3
  have g4 := inB_one h4
  have g1 := inB_mem h1
  refine ⟨altOK_mem h0, fun x hx => ?_, inB_one h5, owner_size2 (by simpa using h6), owner_size2 (by simpa using h7), fun x hx => dayB_lim (List.all_eq_true.1 h8 x hx), by have := of_decide_eq_true h9; omega⟩
  unfold dsNums at hx
  rcases List.mem_cons.1 hx with rfl | hx
  · omega
  · rcases List.mem_cons.1 hx with rfl | hx
    · omega
    · rcases List.mem_cons.1 hx with rfl | hx
      · omega
      · exact g1 x hx
theorem slI_blk {w0 w : World} {H : List It} {j b : Nat} {l : List Int} (hs : St w0 H w) (hj : H[j]? = some (.blk b 3 (ints l).toArray)) (hl : l.length ≤ 1000) : Sl encI 1 w (some ⟨b, 0, none⟩) l := slI_row hs hj rfl (by omega)
theorem dat_law : dat.Law where
  entN := ent_of Tryz.func76 rfl rfl
  entg := ent_of Tryz.func194 rfl rfl
  entV := ent_of Tryz.func195 rfl rfl
  form := ⟨0, rfl⟩
  name s w hg _ := nameValid_any s w hg
  okL e va vg w hg ha := dataOK_any e va vg w hg ha
  size e out h := by
    obtain ⟨_, _, _, h4, h5, _, h7⟩ := dataOK_lim h
    have z1 := numsOut_size (dsNums e) out
    have z1' : (dsNums e).length = 14 := rfl
    have z2 := encF_len 9 e.ds.cls
    have z3 := encText_size e.ds.volume
    have z4 := encText_size e.ds.owner
    have z5 := numsOut_size [e.ds.created, e.ds.expires] (dsOut1 out e)
    have z6 := encF_len 9 e.alt.length
    have z7 := numsOut_size e.alt (dsOut2 out e)
    have z8 := encF_len 9 e.used
    have y1 : (dsOut1 out e).size ≤ out.size + 400 := by simp only [dsOut1, size_append, strOfNums_size, List.length_cons, List.length_nil]; omega
    have y2 : (dsOut2 out e).size ≤ out.size + 600 := by simp only [dsOut2, size_append, strOfNums_size, List.length_cons, List.length_nil] at z5 ⊢; omega
    show (dsOut out e).size < _
    simp only [dsOut, size_append, strOfNums_size]
    omega
  write e va vg w0 h ha := fun c q out H w ho hs => by
    obtain ⟨h1, h2, h3, h4, h5, h6, h7⟩ := dataOK_lim h
    obtain ⟨⟨A1, c1, rfl, hc1, hr1⟩, _⟩ := ha
    exact data_w c q out e A1 c1 vg w0 w H hs hr1 (fun x hx => by have := h2 x hx; omega) (by omega) (fun x hx => by have := h6 x (by simp only [List.mem_cons, List.not_mem_nil, or_false] at hx ⊢; omega); omega) (by have := h6 e.used (by simp); omega) (fun x hx => by have := h1 x hx; omega) h7 ho (by omega) (by omega)
  read e x hal hgr hsz := fun r c q out w0 H w hs => by
    refine (data_r r c q x out _ w0 w H hs hsz rfl rfl).mono fun en w' h => ?_
    obtain ⟨b, h1, h2⟩ := h
    refine ⟨b, h1, ?_⟩
    have hlen : (dA x).1.length = dM x := aRead_len _ _
    show St w0 (rdB r (dA x).2.num.2 :: cB c out (some ⟨r, 0, none⟩) :: aIt b (dA x).1 :: .blk q 34 (({ e with ds := dsRd x, alt := (dA x).1, used := clampN (dA x).2.num.1 } : E).cells (gVal b (dA x).1.length) vnil) :: H) w'
    rw [hlen, ← dC_cells]
    exact h2
  at_ s j e e0 x H w0 w he hal hgr hs hj := by
    subst he
    have hlen : (dA x).1.length = dM x := aRead_len _ _
    have hcn := cntR_le4 (dY8 x)
    have hpn : dM x ≤ 5 := by unfold dM; omega
    refine ⟨?_, ⟨none, 0, ?_, ?_, ?_⟩⟩
    · show ∃ A c, gVal s (dA x).1.length = .slice A (dA x).1.length c ∧ (dA x).1.length ≤ c ∧ Sl encI 1 w A (dA x).1
      by_cases h0 : (dA x).1.length = 0
      · refine ⟨none, 0, by rw [gVal, if_pos h0, h0]; rfl, by omega, ?_⟩
        rw [List.length_eq_zero_iff.1 h0]
        exact Sl.nil _ _ _
      · refine ⟨some ⟨s, 0, none⟩, (dA x).1.length, by rw [gVal, if_neg h0], Nat.le_refl _, ?_⟩
        have hj' : H[j]? = some (.blk s 3 (ints (dA x).1).toArray) := by
          rw [hj]
          show some (aIt s (dA x).1) = _
          rw [aIt, if_neg h0]
        exact slI_blk hs hj' (by omega)
    · show vnil = .slice none e0.grants.length 0
      rw [hgr]; rfl
    · show e0.grants.length ≤ 0
      rw [hgr]; exact Nat.le_refl _
    · show Sl Gr.cells 3 w none e0.grants
      rw [hgr]; exact Sl.nil _ _ _
  keep e x := ⟨rfl, rfl⟩
  letter := by decide
  one s e := by
    refine ⟨?_, rfl⟩
    show (gVal s e.alt.length).oneCell' = true
    unfold gVal
    split <;> rfl
/-- The five kinds. -/
def kinds : Nat → KF
  | 0 => dat
  | 1 => grp
  | 2 => ali
  | 3 => cat
  | _ => prof
theorem kinds_fam : Fam kinds where
  law i hi := by
    rcases (by omega : i = 0 ∨ i = 1 ∨ i = 2 ∨ i = 3 ∨ i = 4) with rfl | rfl | rfl | rfl | rfl
    · exact dat_law
    · exact grp_law
    · exact ali_law
    · exact cat_law
    · exact prof_law
  kind i hi := by
    rcases (by omega : i = 0 ∨ i = 1 ∨ i = 2 ∨ i = 3 ∨ i = 4) with rfl | rfl | rfl | rfl | rfl <;> rfl
  ent i hi := by
    rcases (by omega : i = 0 ∨ i = 1 ∨ i = 2 ∨ i = 3 ∨ i = 4) with rfl | rfl | rfl | rfl | rfl <;> rfl
end Go.Proofs.YtlkkiimmangplaaGreatDoor

/- Valid, Key, Encode at any entry. -/
namespace Go.Proofs.YtlkkiimmangplaaGreatDoor
open Go.RowKit
set_option linter.unusedVariables false
set_option linter.unusedSimpArgs false
def isKind (k : Int) : Bool := decide (0 ≤ k) && decide (k ≤ 4)
theorem isKind_no {k : Int} (h : isKind k = false) : Instr.findNow (.int .i64) (.int .i64 k) formsEs.toList 0 = some none := by
  have hk : ¬ (0 ≤ k ∧ k ≤ 4) := fun hc => by simp [isKind, hc] at h
  have h0 : (k == 0) = false := beq_eq_false_iff_ne.2 (by omega)
  have h1 : (k == 1) = false := beq_eq_false_iff_ne.2 (by omega)
  have h2 : (k == 2) = false := beq_eq_false_iff_ne.2 (by omega)
  have h3 : (k == 3) = false := beq_eq_false_iff_ne.2 (by omega)
  have h4 : (k == 4) = false := beq_eq_false_iff_ne.2 (by omega)
  simp [formsEs, Instr.findNow, Instr.sameNow, h0, h1, h2, h3, h4]
theorem isKind_yes {k : Int} (h : isKind k = true) : ∃ i : Nat, i < 5 ∧ k = (i : Int) := by
  have hk : 0 ≤ k ∧ k ≤ 4 := by simpa [isKind] using h
  exact ⟨k.toNat, by omega, by omega⟩
def kindAt (k : Int) : KF := kinds k.toNat
def validE (e : E) : Bool := isKind e.kind && (kindAt e.kind).valid e
def keyE (k : Int) (s : ByteArray) : ByteArray := if isKind k = true then (kindAt k).key s else ⟨#[]⟩
def recE (e : E) : ByteArray := if validE e = true then (kindAt e.kind).record e else ⟨#[]⟩
theorem validE_any (e : E) (va vg : Value) (w : World) (hg : Good w) (ha : EntAt w e va vg) (hsz : e.name.size < 4294967281) : Calls Tryz.prog 47 #[.agg (e.cells va vg)] w (RetV w (.bool (validE e))) := by
  cases h : isKind e.kind with
  | false =>
    rw [show validE e = false by rw [validE, h]; rfl]
    exact valid_none e va vg w (isKind_no h)
  | true =>
    obtain ⟨i, hi, hk⟩ := isKind_yes h
    have hK : kindAt e.kind = kinds i := by rw [kindAt, hk, Int.toNat_natCast]
    rw [show validE e = (kinds i).valid e by rw [validE, h, hK]; rfl]
    exact valid_any (kinds i) (kinds_fam.law i hi) e va vg w hg (hk.trans (kinds_fam.kind i hi).symm) ha hsz
theorem keyE_any (k : Int) (s : ByteArray) (w : World) (hsz : s.size < 4294967281) : Calls Tryz.prog 49 #[.int .i64 k, .string s] w (RetV w (.string (keyE k s))) := by
  cases h : isKind k with
  | false =>
    rw [show keyE k s = ⟨#[]⟩ by rw [keyE, if_neg (by rw [h]; simp)]]
    exact key_none k s w (isKind_no h)
  | true =>
    obtain ⟨i, hi, hk⟩ := isKind_yes h
    have hK : kindAt k = kinds i := by rw [kindAt, hk, Int.toNat_natCast]
    rw [show keyE k s = (kinds i).key s by rw [keyE, if_pos h, hK]]
    have := key_any (kinds i) (kinds_fam.law i hi) s w hsz (kinds_fam.law i hi).letter
    rw [kinds_fam.kind i hi] at this
    rw [hk]
    exact this
theorem encodeE_any (e : E) (va vg : Value) (w : World) (hg : Good w) (ha : EntAt w e va vg) (hsz : e.name.size < 4294967281) : Calls Tryz.prog 54 #[.agg (e.cells va vg)] w (RetV w (.tuple #[.string (recE e), .int .i64 (if validE e = true then 0 else 1)])) := by
  cases h : isKind e.kind with
  | false =>
    have hv : validE e = false := by rw [validE, h]; rfl
    rw [show recE e = ⟨#[]⟩ by rw [recE, if_neg (by rw [hv]; simp)], if_neg (by rw [hv]; simp)]
    exact encode_none e va vg w (isKind_no h)
  | true =>
    obtain ⟨i, hi, hk⟩ := isKind_yes h
    have hK : kindAt e.kind = kinds i := by rw [kindAt, hk, Int.toNat_natCast]
    have hv : validE e = (kinds i).valid e := by rw [validE, h, hK]; rfl
    rw [show recE e = (if (kinds i).valid e = true then (kinds i).record e else ⟨#[]⟩) by rw [recE, hv, hK], hv]
    exact encode_any (kinds i) (kinds_fam.law i hi) e va vg w hg (hk.trans (kinds_fam.kind i hi).symm) ha hsz (kinds_fam.law i hi).letter
end Go.Proofs.YtlkkiimmangplaaGreatDoor
