/- Behind a call that leaves all as it was: the arguments read as before, and the row's word behind the call follows. -/
import Derived.Test.YtlkkiimmangplaaGreatDoorX2
import Derived.ChangeReads
import Derived.ChangeSame
import Derived.OpenShut
import Derived.ProofKit
namespace Go.Proofs.YtlkkiimmangplaaGreatDoor
open Go Go.RowKit Go.ChangeShapes Go.WideShapes Go.ChangeAt
variable {H : Type} {enc : TypeId × Value → H} {P : Program} {w w' : World}
/-- The types that a type is made of. -/
def subT : TypeDesc → List TypeId
  | .pointer e | .slice e | .array _ e | .map _ e => [e]
  | .struct fs => fs.toList.map (·.type)
  | _ => []
/-- Types under which no slice has elements without cells. -/
def TClosed (P : Program) (S : TypeId → Prop) : Prop := ∀ t d, S t → P.underlying t = some d → (∀ e ∈ subT d, S e) ∧ ∀ e, d = .slice e → 0 < P.cellsOf e
theorem trod_sp {sp : Nat → Bool} {S : TypeId → Prop} (hc : TClosed P S) : ∀ (n : Nat) (t : TypeId) (cs : List Value) (x : DataW H × List MemPlace), DataW.trod enc P w 0 (fun _ => true) true n t cs = some x → (∀ p ∈ x.2, sp p.block = true) →
    S t → DataW.trod enc P w 0 sp true n t cs = some x := by
  intro n
  induction n with
  | zero => intro t cs x h; simp [DataW.trod] at h
  | succ n ih =>
    intro t cs x h hs hS
    rw [DataW.trod_step] at h ⊢
    unfold DataW.trodStep at h ⊢
    split at h
    case h_6 e a ht =>
      have hS' := (hc _ _ hS ht).1 e (by simp [subT])
      simp only [Option.map_eq_some_iff, Option.bind_eq_some_iff] at h ⊢
      obtain ⟨y, ⟨c, h1, h2⟩, rfl⟩ := h
      exact ⟨y, ⟨c, h1, ih _ _ _ h2 (fun p hp => hs p (by simp [hp])) hS'⟩, rfl⟩
    case h_8 e a len cap ht =>
      simp only at h ⊢
      split at h
      · rename_i hcond
        rw [if_pos hcond]
        simp only [Option.bind_eq_some_iff, Option.map_eq_some_iff, if_true] at h ⊢
        obtain ⟨elems, h1, rest, h2, rfl⟩ := h
        have h0 := (hc _ _ hS ht).2 e rfl
        have hS' := (hc _ _ hS ht).1 e (by simp [subT])
        have hmem : ∀ y ∈ elems ++ rest, ∀ p ∈ y.2, sp p.block = true := fun y hy p hp => hs p (by simp only [List.mem_append, List.mem_flatMap]; exact .inr ⟨y, List.mem_append.1 hy, hp⟩)
        refine ⟨elems, mapM_carry h1 (fun i y _ hy hv => ?_), rest, ?_, rfl⟩
        · simp only [Option.bind_eq_some_iff] at hv ⊢
          obtain ⟨c, g1, g2⟩ := hv
          exact ⟨c, g1, ih _ _ _ g2 (hmem y (List.mem_append_left _ hy)) hS'⟩
        · have hrest : List.mapM (fun j => (w.cells? 0 (a.add ((len + j) * P.cellsOf e)) (P.cellsOf e)).bind (DataW.trod enc P w 0 sp true n e)) (List.range (cap - len)) = some rest := mapM_carry h2 (fun i y _ hy hv => by
            simp only [Option.bind_eq_some_iff] at hv ⊢
            obtain ⟨c, g1, g2⟩ := hv
            exact ⟨c, g1, ih _ _ _ g2 (hmem y (List.mem_append_right _ hy)) hS'⟩)
          by_cases hr : rest = []
          · split
            · exact hrest
            · rw [hr]
          · have hlen : 0 < (elems.length + rest.length) * P.cellsOf e := Nat.mul_pos (by have := List.length_pos_iff.2 hr; omega) h0
            have hb : sp a.block = true := hs (.cell a.block (a.off + 0)) (by simp only [List.mem_append]; exact .inl (MemPlace.mem_row.2 ⟨0, hlen, rfl⟩))
            rw [if_pos hb]
            exact hrest
      · cases h
    case h_9 fs cs ht =>
      split at h
      · rename_i hl
        rw [if_pos hl]
        simp only [Option.map_eq_some_iff] at h ⊢
        obtain ⟨xs, h1, rfl⟩ := h
        exact ⟨xs, mapM_carry h1 (fun f y hf hy hv => ih _ _ _ hv (fun p hp => hs p (by simp only [List.mem_flatMap]; exact ⟨y, hy, hp⟩)) ((hc _ _ hS ht).1 f.type (by simp only [subT, List.mem_map]; exact ⟨f, hf, rfl⟩))), rfl⟩
      · cases h
    case h_10 cs0 m e ht =>
      split at h
      · rename_i hl
        rw [if_pos hl]
        simp only [Option.map_eq_some_iff] at h ⊢
        obtain ⟨xs, h1, rfl⟩ := h
        exact ⟨xs, mapM_carry h1 (fun f y _ hy hv => ih _ _ _ hv (fun p hp => hs p (by simp only [List.mem_flatMap]; exact ⟨y, hy, hp⟩)) ((hc _ _ hS ht).1 e (by simp [subT]))), rfl⟩
      · cases h
    case h_14 k e b ht =>
      split at h
      · rename_i es clock hbk
        split at h
        · rename_i hcond
          rw [if_pos hcond]
          simp only [Option.bind_eq_some_iff] at h ⊢
          obtain ⟨entries, he, hd⟩ := h
          split at hd
          · rename_i hris
            simp only [Option.some.injEq] at hd
            subst hd
            refine ⟨entries, mapM_carry he (fun x y _ hy hv => ?_), by simp [hris]⟩
            simp only [Option.bind_eq_some_iff] at hv ⊢
            obtain ⟨key, hk, hz⟩ := hv
            refine ⟨key, hk, ?_⟩
            split at hz
            · rename_i hf
              rw [if_pos hf]
              simp only [Option.map_eq_some_iff] at hz ⊢
              obtain ⟨q, hq, rfl⟩ := hz
              exact ⟨q, ih _ _ _ hq (fun p hp => hs p (by simp only [List.mem_cons, List.mem_flatMap]; right; exact ⟨_, hy, hp⟩)) ((hc _ _ hS ht).1 e (by simp [subT])), rfl⟩
            · cases hz
          · cases hd
        · cases h
      · cases h
    all_goals exact h

theorem trodAll_kept {sp : Nat → Bool} {S : TypeId → Prop} (hc : TClosed P S) : ∀ {ts : List TypeId} {vs : List Value} {ds : List (DataW H)} {ps : List MemPlace},
    DataW.TrodAll enc P w 0 (fun _ => true) true ts vs ds ps → (∀ p ∈ ps, w.sameAt w' p) → (∀ p ∈ ps, sp p.block = true) → (∀ t ∈ ts, S t) → DataW.TrodAll enc P w' 0 sp true ts vs ds ps
  | [], [], [], _, h, _, _, _ => h
  | _ :: _, _ :: _, _ :: _, _, ⟨p, q, ⟨n, hn⟩, hs, e⟩, h1, h2, h3 => by
    subst e
    refine ⟨p, q, ⟨n, ?_⟩, trodAll_kept hc hs (fun x hx => h1 x (List.mem_append_right _ hx)) (fun x hx => h2 x (List.mem_append_right _ hx)) (fun t ht => h3 t (List.mem_cons_of_mem _ ht)), rfl⟩
    exact trod_sp hc n _ _ _ (DataW.trod_carry n _ _ _ hn (fun x hx => h1 x (List.mem_append_left _ hx))) (fun x hx => h2 x (List.mem_append_left _ hx)) (h3 _ List.mem_cons_self)
/-- The word behind the call: it answers true, and all that there was is as it was. -/
theorem post_kept {f : Func} {s : ChangeSpec} {W W' : World} {args : Array Value} {ds : List (DataW H)} {before : List MemPlace} {S : TypeId → Prop} (hc : TClosed P S) (hS : ∀ t ∈ f.params.toList, S t) (hbool : P.underlying 4 = some .bool)
    (hv : s.vars = []) (hf : f.resultTypes = #[4]) (hs : s.fn H ds = { results := [.lit (.bool true)], args := ds })
    (hW : DataW.Whole enc P f.params.toList s.vars false W args.toList ds [] before) (hb : Below W.heap.size W W') : s.post enc P f false true false false W args (.bool true) W' := by
  have hlt := hW.lt
  have hW0 := hW
  obtain ⟨p, q, hA, hV, rfl, hz, _⟩ := hW
  rw [hv] at hV
  obtain ⟨_, rfl⟩ := trodVars_none hV
  have hold : ∀ x ∈ p ++ [], (fun b => decide (b < W.heap.size)) x.block = true := fun x hx => by simpa using hlt x hx
  have hsame : ∀ x ∈ p, W.sameAt W' x := fun x hx => hb.same (hlt x (by simpa using hx))
  refine ⟨ds, [], p ++ [], [], p, [], hW0, ?_, ?_, ?_, World.keptBut_mono (fun x hx => ⟨hx, .inr (.inl (by simpa using hx))⟩) (hb.frame (· ∈ p ++ [])), fun h => by cases h⟩
  · rw [hf, List.append_nil, hs]
    exact trodAll_mk1 (shut_bool hbool _)
  · rw [List.append_nil, hs]
    exact trodAll_kept hc hA hsame (fun x hx => hold x (by simpa using hx)) hS
  · rw [hv, List.append_nil, hs]
    exact rfl
end Go.Proofs.YtlkkiimmangplaaGreatDoor
