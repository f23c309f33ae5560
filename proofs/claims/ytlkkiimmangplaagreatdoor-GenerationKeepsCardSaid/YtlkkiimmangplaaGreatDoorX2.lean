/- Inputs opened: a slice of numbers as my reading says it. -/
import Derived.Test.YtlkkiimmangplaaGreatDoorK
import Derived.Test.YtlkkiimmangplaaGreatDoorX0
import Derived.ChangeSlices
import Derived.OpenShut
namespace Go.Proofs.YtlkkiimmangplaaGreatDoor
open Go Go.RowKit
theorem sl_of_ints {w : World} {a : Addr} {len : Nat} {zs : List Int} (hl : len ≤ zs.length) (hm : len ≤ 140737488351232) (h : ∀ i, i < zs.length → w.cell? (a.add i) = some (.int .i64 (zs.getD i 0))) : Sl encI 1 w (some a) (zs.take len) := by
  refine ⟨by rw [List.length_take]; omega, fun hp => ?_⟩
  rw [List.length_take] at hp
  obtain ⟨b, off, rfl, hc⟩ := ints_at h (by omega)
  refine ⟨b, off, rfl, fun k x hx i u hu => ?_⟩
  cases i with
  | succ i => simp [encI] at hu
  | zero =>
    simp [encI] at hu
    subst hu
    rw [List.getElem?_take] at hx
    split at hx
    · have hk : k < zs.length := (List.getElem?_eq_some_iff.1 hx).1
      have := hc k hk
      rw [List.getD, hx] at this
      simpa using this
    · cases hx
end Go.Proofs.YtlkkiimmangplaaGreatDoor
