/- Parts: P46, X0, X3, X4, P47, P48, X5, J0. -/
import Derived.Test.YtlkkiimmangplaaGreatDoorEA4
import Derived.HandedShaped
import Derived.Handed
import Derived.ChangeReads
import Derived.ChangeSame
import Derived.OpenShut
import Derived.ProofKit
import Derived.ChangeArms
import Derived.DataReads
import Derived.Test.YtlkkiimmangplaaGreatDoorRows
import Derived.Lib.LaidTab
import Derived.MakeChecks
import Derived.JoinedOf
import Derived.KernelRfl
import Derived.SevenTiedAt
/- The example of the chapter on entries. -/
namespace Go.Proofs.YtlkkiimmangplaaGreatDoor
open Go.RowKit
set_option linter.unusedVariables false
set_option linter.unusedSimpArgs false

/-- The example of the chapter. -/
def awE : E := { E.zero with kind := 2, name := ⟨#[80, 65, 89]⟩, target := ⟨#[80, 65, 89, 46, 77, 65, 83, 84, 69, 82]⟩ }
def awS : ByteArray := ⟨#[65, 80, 65, 89, 32, 32, 32, 32, 32, 32, 32, 32, 32, 32, 32, 32, 32, 32, 32, 32, 32, 32, 32, 32, 32, 32, 32, 32, 32, 32, 32, 32, 10, 80, 65, 89, 46, 77, 65, 83, 84, 69, 82]⟩
theorem cmpS_eq {p q : ByteArray} (h : p = q) : cmpS .eql p q = some true := by subst h; simp [cmpS]
theorem aw_valid : validE awE = true := by kernel_rfl
theorem aw_rec : recE awE = awS := by kernel_rfl
theorem aw_dec : decOpt awS = some awE := by rw [← aw_rec]; exact dec_rec aw_valid
theorem aw_key : keyE 2 ⟨#[80, 65, 89]⟩ = awS.extract 0 32 := by kernel_rfl
theorem aw_text : (⟨#[65, 80, 65, 89]⟩ : ByteArray) ++ blanks 28 ++ ⟨#[10, 80, 65, 89, 46, 77, 65, 83, 84, 69, 82]⟩ = awS := by kernel_rfl
def awT : List ByteArray := [⟨#[97, 108, 105, 97, 115, 32, 80, 65, 89]⟩, ⟨#[32, 32, 116, 97, 114, 103, 101, 116, 32, 80, 65, 89, 46, 77, 65, 83, 84, 69, 82]⟩]
theorem aw_lines : addL [kindLine 2 awE.name] ⟨#[116, 97, 114, 103, 101, 116]⟩ awE.target = awT := by kernel_rfl
theorem encAw (w : World) (hg : Good w) : Calls Tryz.prog 54 #[.agg (awE.cells vnil vnil)] w (RetV w (.tuple #[.string awS, .int .i64 0])) := by
  have h := encodeE_any awE vnil vnil w hg (entNil rfl rfl) (by decide)
  rw [aw_valid, aw_rec, if_pos rfl] at h
  exact h
theorem decAw (w : World) (hg : Good w) : Calls Tryz.prog 56 #[.string awS] w (Ret w (DecS awE) (fun p => .tuple #[.agg (awE.cells p.1 p.2.1), .int .i64 0]) (fun p => [p.2.2])) := by
  have h := decodeU awS w hg (by decide)
  have e1 : decE awS = awE := by unfold decE; rw [aw_dec]; rfl
  have e2 : decC awS = 0 := by unfold decC; rw [aw_dec]; rfl
  rw [e1, e2] at h
  exact h
theorem validAw (w : World) (hg : Good w) : Calls Tryz.prog 47 #[.agg (awE.cells vnil vnil)] w (RetV w (.bool true)) := by
  have h := validE_any awE vnil vnil w hg (entNil rfl rfl) (by decide)
  rw [aw_valid] at h
  exact h
theorem keyAw (w : World) : Calls Tryz.prog 49 #[.int .i64 2, .string ⟨#[80, 65, 89]⟩] w (RetV w (.string (awS.extract 0 32))) := by
  have h := keyE_any 2 ⟨#[80, 65, 89]⟩ w (by decide)
  rw [aw_key] at h
  exact h
theorem textAw (w : World) (hg : Good w) : Calls Tryz.prog 52 #[.agg (awE.cells vnil vnil)] w (Ret w (fun _ : Nat × Nat => True) (fun p => .slice (some ⟨p.1, 0, none⟩) 2 p.2) (fun p => [lnR p.1 p.2 awT])) := by
  have h := textAlias_any awE vnil vnil w hg (entNil rfl rfl) rfl aw_valid (by decide) (by decide)
  rw [aw_lines] at h
  exact h

set_option maxRecDepth 100000 in
theorem awake33_any  (w : World) (hg : Good w) :
    Calls Tryz.prog 45 #[] w (RetV w (.bool true)) := by
  refine enter Tryz.func45 rfl Tryz.ntmps45 rfl ?_
  refine WC.seq ?_
  refine WC.region ?_
  refine WL.p rfl rfl rfl (P.assign rfl) ?_
  refine WL.nil_ ?_
  refine End.seq ?_
  refine WC.seq ?_
  refine WC.region ?_
  refine WL.p rfl rfl rfl (P.build rfl (fun w => bo_34 Tryz.zeroValue34 (cs := #[_, _, _, _, _, _, _, _, _, _, _, _, _, _, _, _, _, _, _, _, _, _, _, _, _, _, _, _, _, _, _, _, _]) rfl rfl w)) ?_
  refine WL.alloc Tryz.zeroValue34 rfl rfl (fun b1 => ?_)
  refine WL.storeW 0 Tryz.sizeOf34 rfl rfl rfl rfl rfl rfl rfl ?_
  refine WL.nil_ ?_
  refine End.seq ?_
  refine WC.seq ?_
  refine WC.region ?_
  refine WL.p rfl rfl rfl (P.loadW 0 Tryz.isAgg34 Tryz.sizeOf34 rfl rfl rfl) ?_
  refine WL.callv (ent_of Tryz.func54 rfl rfl) rfl rfl rfl (fun w hs => encAw w (hg.st hs)) ?_
  refine WL.p rfl rfl rfl (P.move rfl) ?_
  refine WL.p rfl rfl rfl (P.extract rfl rfl) ?_
  refine WL.p rfl rfl rfl (P.extract rfl rfl) ?_
  refine WL.p rfl rfl rfl (P.assign rfl) ?_
  refine WL.p rfl rfl rfl (P.assign rfl) ?_
  refine WL.nil_ ?_
  refine End.seq ?_
  refine WC.seq ?_
  refine WC.region ?_
  refine WL.p rfl rfl rfl (P.move rfl) ?_
  refine WL.callx (ent_of Tryz.func56 rfl rfl) rfl rfl rfl (fun w hs => decAw w (hg.st hs)) (fun p hp => ?_)
  refine WL.p rfl rfl rfl (P.move rfl) ?_
  refine WL.p rfl rfl rfl (P.extract rfl rfl) ?_
  refine WL.p rfl rfl rfl (P.extract rfl rfl) ?_
  refine WL.alloc Tryz.zeroValue34 rfl rfl (fun b4 => ?_)
  refine WL.storeW 0 Tryz.sizeOf34 rfl rfl rfl (E.one _ hp.1.1 hp.1.2) rfl rfl rfl ?_
  refine WL.p rfl rfl rfl (P.assign rfl) ?_
  refine WL.nil_ ?_
  refine End.seq ?_
  refine WC.seq ?_
  refine WC.nil1 ?_
  apply WC.draws2 (al := [24]) (vs := [_, _, _, _, _, _, _, _, _, _, _, _, _, _, _, _, _, _, _, _, _, _, _, _, fun s => .slice (some ⟨(s 24).1, 0, none⟩) 2 (s 24).2, _, _, _, _, _, _, _, _, _, _]) (Hs := fun v HH b s => (bnew (b 24) (lnR (s 24).1 (s 24).2 awT) HH 0)) (by kernel_rfl) (by kernel_rfl) (by kernel_rfl)
  case steps =>
    refine Stps2.cons (Stp.p (fun b s hd => ⟨_, ⟨rfl, P.loadW 3 Tryz.isAgg34 Tryz.sizeOf34 rfl rfl rfl⟩, rfl, rfl⟩)) ?_
    refine Stps2.cons (Stp.callv (ent_of Tryz.func47 rfl rfl) (fun b s hd => ⟨_, _, rfl, rfl, fun w hs => validAw w (hg.st hs), rfl, rfl⟩)) ?_
    refine Stps2.cons (Stp.p (fun b s hd => ⟨_, ⟨rfl, P.move rfl⟩, rfl, rfl⟩)) ?_
    refine Stps2.cons (Stp.p (fun b s hd => ⟨_, ⟨rfl, P.move rfl⟩, rfl, rfl⟩)) ?_
    refine Stps2.cons (Stp.p (fun b s hd => ⟨_, ⟨rfl, P.cmp rfl rfl rfl⟩, rfl, rfl⟩)) ?_
    refine Stps2.cons (Stp.p (fun b s hd => ⟨_, ⟨rfl, P.pickT rfl rfl⟩, rfl, rfl⟩)) ?_
    refine Stps2.cons (Stp.p (fun b s hd => ⟨_, ⟨rfl, P.move rfl⟩, rfl, rfl⟩)) ?_
    refine Stps2.cons (Stp.p (fun b s hd => ⟨_, ⟨rfl, P.move rfl⟩, rfl, rfl⟩)) ?_
    refine Stps2.cons (Stp.callv (ent_of Tryz.func61 rfl rfl) (fun b s hd => ⟨_, _, rfl, rfl, fun w hs => blanks_any 28 w (by decide), rfl, rfl⟩)) ?_
    refine Stps2.cons (Stp.p (fun b s hd => ⟨_, ⟨rfl, P.cat rfl rfl (by decide)⟩, rfl, rfl⟩)) ?_
    refine Stps2.cons (Stp.p (fun b s hd => ⟨_, ⟨rfl, P.cat rfl rfl (by decide)⟩, rfl, rfl⟩)) ?_
    refine Stps2.cons (Stp.p (fun b s hd => ⟨_, ⟨rfl, P.cmps rfl rfl (cmpS_eq aw_text.symm)⟩, rfl, rfl⟩)) ?_
    refine Stps2.cons (Stp.p (fun b s hd => ⟨_, ⟨rfl, P.pickT rfl rfl⟩, rfl, rfl⟩)) ?_
    refine Stps2.cons (Stp.p (fun b s hd => ⟨_, ⟨rfl, P.move rfl⟩, rfl, rfl⟩)) ?_
    refine Stps2.cons (Stp.p (fun b s hd => ⟨_, ⟨rfl, P.move rfl⟩, rfl, rfl⟩)) ?_
    refine Stps2.cons (Stp.p (fun b s hd => ⟨_, ⟨rfl, P.cmp rfl rfl rfl⟩, rfl, rfl⟩)) ?_
    refine Stps2.cons (Stp.p (fun b s hd => ⟨_, ⟨rfl, P.pickT rfl rfl⟩, rfl, rfl⟩)) ?_
    refine Stps2.cons (Stp.p (fun b s hd => ⟨_, ⟨rfl, P.move rfl⟩, rfl, rfl⟩)) ?_
    refine Stps2.cons (Stp.p (fun b s hd => ⟨_, ⟨rfl, P.loadW 3 Tryz.isAgg34 Tryz.sizeOf34 rfl rfl rfl⟩, rfl, rfl⟩)) ?_
    refine Stps2.cons (Stp.p (fun b s hd => ⟨_, ⟨rfl, P.loadW 1 Tryz.isAgg34 Tryz.sizeOf34 rfl rfl rfl⟩, rfl, rfl⟩)) ?_
    refine Stps2.cons (Stp.callv (ent_of Tryz.func34 rfl rfl) (fun b s hd => ⟨_, _, rfl, rfl, fun w hs => by have := same_any awE awE vnil vnil p.1 p.2.1 w (entNil rfl rfl) (hp.2 _ _ _ 2 hs rfl); rw [decide_eq_true rfl] at this; exact this, rfl, rfl⟩)) ?_
    refine Stps2.cons (Stp.p (fun b s hd => ⟨_, ⟨rfl, P.pickT rfl rfl⟩, rfl, rfl⟩)) ?_
    refine Stps2.cons (Stp.p (fun b s hd => ⟨_, ⟨rfl, P.move rfl⟩, rfl, rfl⟩)) ?_
    refine Stps2.cons (Stp.p (fun b s hd => ⟨_, ⟨rfl, P.loadW 3 Tryz.isAgg34 Tryz.sizeOf34 rfl rfl rfl⟩, rfl, rfl⟩)) ?_
    refine Stps2.cons (Stp.callx2 0 (ent_of Tryz.func52 rfl rfl) rfl (fun b s hb hd => ⟨_, _, _, _, rfl, rfl, fun w hs => textAw w (hg.st hs), fun q => rfl, ⟨_, rfl⟩, fun q => rfl⟩)) ?_
    refine Stps2.cons (Stp.p (fun b s hd => ⟨_, ⟨rfl, P.lenR Tryz.underlying48 rfl⟩, rfl, rfl⟩)) ?_
    refine Stps2.cons (Stp.p (fun b s hd => ⟨_, ⟨rfl, P.cmp rfl rfl rfl⟩, rfl, rfl⟩)) ?_
    refine Stps2.cons (Stp.p (fun b s hd => ⟨_, ⟨rfl, P.pickT rfl rfl⟩, rfl, rfl⟩)) ?_
    refine Stps2.cons (Stp.p (fun b s hd => ⟨_, ⟨rfl, P.move rfl⟩, rfl, rfl⟩)) ?_
    refine Stps2.cons (Stp.callv (ent_of Tryz.func49 rfl rfl) (fun b s hd => ⟨_, _, rfl, rfl, fun w hs => keyAw w, rfl, rfl⟩)) ?_
    refine Stps2.cons (Stp.p (fun b s hd => ⟨_, ⟨rfl, P.move rfl⟩, rfl, rfl⟩)) ?_
    refine Stps2.cons (Stp.p (fun b s hd => ⟨_, ⟨rfl, P.subH Tryz.underlying9 rfl rfl (by decide) (by decide)⟩, rfl, rfl⟩)) ?_
    refine Stps2.cons (Stp.p (fun b s hd => ⟨_, ⟨rfl, P.cmps rfl rfl (cmpS_eq rfl)⟩, rfl, rfl⟩)) ?_
    refine Stps2.cons (Stp.p (fun b s hd => ⟨_, ⟨rfl, P.pickT rfl rfl⟩, rfl, rfl⟩)) ?_
    refine Stps2.cons (Stp.p (fun b s hd => ⟨_, ⟨rfl, P.assign rfl⟩, rfl, rfl⟩)) ?_
    exact Stps2.nil
  case h0 => exact fun s => rfl
  case agree => exact AgrAll.cons (AgrL.no (fun s x => rfl) (AgrL.no (fun s x => rfl) (AgrL.no (fun s x => rfl) (AgrL.no (fun s x => rfl) (AgrL.no (fun s x => rfl) (AgrL.no (fun s x => rfl) (AgrL.no (fun s x => rfl) (AgrL.no (fun s x => rfl) (AgrL.no (fun s x => rfl) (AgrL.no (fun s x => rfl) (AgrL.no (fun s x => rfl) (AgrL.no (fun s x => rfl) (AgrL.no (fun s x => rfl) (AgrL.no (fun s x => rfl) (AgrL.no (fun s x => rfl) (AgrL.no (fun s x => rfl) (AgrL.no (fun s x => rfl) (AgrL.no (fun s x => rfl) (AgrL.no (fun s x => rfl) (AgrL.no (fun s x => rfl) (AgrL.no (fun s x => rfl) (AgrL.no (fun s x => rfl) (AgrL.no (fun s x => rfl) (AgrL.no (fun s x => rfl) (AgrL.yes (by kernel_rfl) (AgrL.yes (by kernel_rfl) (AgrL.yes (by kernel_rfl) (AgrL.yes (by kernel_rfl) (AgrL.yes (by kernel_rfl) (AgrL.yes (by kernel_rfl) (AgrL.yes (by kernel_rfl) (AgrL.yes (by kernel_rfl) (AgrL.yes (by kernel_rfl) (AgrL.yes (by kernel_rfl) (AgrL.yes (by kernel_rfl) (AgrL.nil)))))))))))))))))))))))))))))))))))) (AgrAll.nil)
  intro s4
  refine End.shapeD (by kernel_rfl) (new := [(0, _), (17, _), (18, _), (19, _), (20, _), (21, _), (22, _), (23, _), (24, _), (25, _), (26, _), (27, _), (28, _), (29, _), (30, _), (31, _), (32, _), (33, _), (34, _), (35, _), (36, _), (37, _), (38, _), (39, _), (40, _), (41, _), (42, _), (43, _), (44, _), (45, _), (46, _), (47, _), (48, _), (49, _), (50, _)]) (H' := [_, _, _, _]) (Env.sub_cons rfl (Env.sub_cons rfl (Env.sub_cons rfl (Env.sub_cons rfl (Env.sub_cons rfl (Env.sub_cons rfl (Env.sub_cons rfl (Env.sub_cons rfl (Env.sub_cons rfl (Env.sub_cons rfl (Env.sub_cons rfl (Env.sub_cons rfl (Env.sub_cons rfl (Env.sub_cons rfl (Env.sub_cons rfl (Env.sub_cons rfl (Env.sub_cons rfl (Env.sub_cons rfl (Env.sub_cons rfl (Env.sub_cons rfl (Env.sub_cons rfl (Env.sub_cons rfl (Env.sub_cons rfl (Env.sub_cons rfl (Env.sub_cons rfl (Env.sub_cons rfl (Env.sub_cons rfl (Env.sub_cons rfl (Env.sub_cons rfl (Env.sub_cons rfl (Env.sub_cons rfl (Env.sub_cons rfl (Env.sub_cons rfl (Env.sub_cons rfl (Env.sub_cons rfl (Env.sub_nil)))))))))))))))))))))))))))))))))))) rfl ?_
  refine End.seq ?_
  refine WC.ret ?_
  refine End.ret1 rfl rfl ?_
  exact fun w' hs' => RetV.of rfl hs'

end Go.Proofs.YtlkkiimmangplaaGreatDoor

/- The lift of a row with listed variables, the world's shape kept. -/
namespace Go.Proofs.YtlkkiimmangplaaGreatDoor
open Go
variable {H : Type} {enc : TypeId × Value → H}
theorem lift_and_shaped {a : Assume} {C : Checked} {os : Os} {f : FuncId} {fn : Func} {s : ChangeSpec} {conds : List PathCond} {apart fresh handsOn again : Bool} {X : World → Array Value → Prop}
    (hX : ∀ (w w' : World) (args : Array Value), w.heap = w'.heap → X w args → X w' args)
    (own : ownKnob C.prog.godebug = none) (started : os.Started) (noInit : C.prog.inits.idxOf? f = none) (hfn : C.prog.funcs[f]? = some fn)
    (witness : ∃ (w : World) (tape : Tape) (i : Input), w.os = os ∧ (w.forCall tape i).Shaped C.prog ∧ i.vars = [] ∧ Input.okWide C.prog (w.forCall tape i) .any w.heap.size f i ∧
      ((s.pre enc C.prog fn conds apart (w.forCall tape i).memory i.args ∧ X (w.forCall tape i).memory i.args) ∧ sizedMet enc C.prog fn (OpenSpec.ofChange s) apart (w.forCall tape i).memory i.args) ∧ a.holds C.prog (lone (Frame.enter C.prog f i.args .normal) [] (w.forCall tape i)))
    (contract : ∀ (W : World) (base : Nat) (args : Array Value) (ds gs : List (DataW H)) (before : List MemPlace),
      (∀ (j : Nat) t v, fn.params[j]? = some t → args[j]? = some v → Value.okWide C.prog W .any base t v) →
      DataW.Whole enc C.prog fn.params.toList s.vars apart W args.toList ds gs before →
      conds.all (PathCond.test C.prog ⟨fn.params.toList, ds, s.plain.varTypes C.prog, gs⟩) = true →
      (DataW.weightsEach C.prog (fn.params.toList ++ s.plain.varTypes C.prog) (ds ++ gs)).all (· ≤ reachBytes) = true → X W args →
      W.ShapedOpen C.prog →
      a.holds C.prog (lone (Frame.enter C.prog f args .normal) [] W) →
      Calls C.prog f args W fun e W' => ∃ v, e = .returned v ∧ s.post enc C.prog fn apart fresh handsOn again W args v W') :
    ReturnsInHanded a C os f .any (fun w args => (s.pre enc C.prog fn conds apart w args ∧ X w args) ∧ sizedMet enc C.prog fn (OpenSpec.ofChange s) apart w args) (s.post enc C.prog fn apart fresh handsOn again) := by
  refine returnsInHanded_of_calls own started noInit witness ?_
  intro w tape i _ hsh _ hok hpre hholds
  obtain ⟨_, _, _, fn', hfn', _, _, _, _, hval⟩ := hok
  have e : fn' = fn := Option.some.inj (hfn'.symm.trans hfn)
  subst e
  obtain ⟨⟨⟨ds, gs, before, hw, hc⟩, hx⟩, hz⟩ := hpre
  have hw' := DataW.Whole.of_heap (w' := w.forCall tape i) (by rfl) hw
  refine (contract (w.forCall tape i) w.heap.size i.args ds gs before hval hw' hc (hz.weights hw) (hX _ _ _ (by rfl) hx) hsh hholds).mono fun e W' ⟨v, he, hp⟩ => ?_
  subst he
  exact ChangeSpec.post_blind hp
end Go.Proofs.YtlkkiimmangplaaGreatDoor

/- Behind a call that leaves all as it was: the arguments read as before, and the row's word behind the call follows. -/
namespace Go.Proofs.YtlkkiimmangplaaGreatDoor
open Go Go.RowKit Go.ChangeShapes Go.WideShapes Go.ChangeAt
variable {H : Type} {enc : TypeId × Value → H} {P : Program} {w w' : World}
/-- The types that a type is made of. -/
def subT : TypeDesc → List TypeId
  | .pointer e | .slice e | .array _ e | .map _ e => [e]
  | .struct fs => fs.toList.map (·.type)
  | _ => []
/-- Types under which no slice has elements without cells. -/
def TClosed (P : Program) (S : TypeId → Prop) : Prop := ∀ t d, S t → P.underlying t = some d → (∀ e ∈ subT d, S e) ∧ ∀ e, d = .slice e → 0 < P.cellsOf e
theorem trod_sp {sp : Nat → Bool} {S : TypeId → Prop} (hc : TClosed P S) : ∀ (n : Nat) (t : TypeId) (cs : List Value) (x : DataW H × List MemPlace), DataW.trod enc P w 0 (fun _ => true) true n t cs = some x → (∀ p ∈ x.2, sp p.block = true) →
    S t → DataW.trod enc P w 0 sp true n t cs = some x := by
  intro n
  induction n with
  | zero => intro t cs x h; simp [DataW.trod] at h
  | succ n ih =>
    intro t cs x h hs hS
    rw [DataW.trod_step] at h ⊢
    unfold DataW.trodStep at h ⊢
    split at h
    case h_6 e a ht =>
      have hS' := (hc _ _ hS ht).1 e (by simp [subT])
      simp only [Option.map_eq_some_iff, Option.bind_eq_some_iff] at h ⊢
      obtain ⟨y, ⟨c, h1, h2⟩, rfl⟩ := h
      exact ⟨y, ⟨c, h1, ih _ _ _ h2 (fun p hp => hs p (by simp [hp])) hS'⟩, rfl⟩
    case h_8 e a len cap ht =>
      simp only at h ⊢
      split at h
      · rename_i hcond
        rw [if_pos hcond]
        simp only [Option.bind_eq_some_iff, Option.map_eq_some_iff, if_true] at h ⊢
        obtain ⟨elems, h1, rest, h2, rfl⟩ := h
        have h0 := (hc _ _ hS ht).2 e rfl
        have hS' := (hc _ _ hS ht).1 e (by simp [subT])
        have hmem : ∀ y ∈ elems ++ rest, ∀ p ∈ y.2, sp p.block = true := fun y hy p hp => hs p (by simp only [List.mem_append, List.mem_flatMap]; exact .inr ⟨y, List.mem_append.1 hy, hp⟩)
        refine ⟨elems, mapM_carry h1 (fun i y _ hy hv => ?_), rest, ?_, rfl⟩
        · simp only [Option.bind_eq_some_iff] at hv ⊢
          obtain ⟨c, g1, g2⟩ := hv
          exact ⟨c, g1, ih _ _ _ g2 (hmem y (List.mem_append_left _ hy)) hS'⟩
        · have hrest : List.mapM (fun j => (w.cells? 0 (a.add ((len + j) * P.cellsOf e)) (P.cellsOf e)).bind (DataW.trod enc P w 0 sp true n e)) (List.range (cap - len)) = some rest := mapM_carry h2 (fun i y _ hy hv => by
            simp only [Option.bind_eq_some_iff] at hv ⊢
            obtain ⟨c, g1, g2⟩ := hv
            exact ⟨c, g1, ih _ _ _ g2 (hmem y (List.mem_append_right _ hy)) hS'⟩)
          by_cases hr : rest = []
          · split
            · exact hrest
            · rw [hr]
          · have hlen : 0 < (elems.length + rest.length) * P.cellsOf e := Nat.mul_pos (by have := List.length_pos_iff.2 hr; omega) h0
            have hb : sp a.block = true := hs (.cell a.block (a.off + 0)) (by simp only [List.mem_append]; exact .inl (MemPlace.mem_row.2 ⟨0, hlen, rfl⟩))
            rw [if_pos hb]
            exact hrest
      · cases h
    case h_9 fs cs ht =>
      split at h
      · rename_i hl
        rw [if_pos hl]
        simp only [Option.map_eq_some_iff] at h ⊢
        obtain ⟨xs, h1, rfl⟩ := h
        exact ⟨xs, mapM_carry h1 (fun f y hf hy hv => ih _ _ _ hv (fun p hp => hs p (by simp only [List.mem_flatMap]; exact ⟨y, hy, hp⟩)) ((hc _ _ hS ht).1 f.type (by simp only [subT, List.mem_map]; exact ⟨f, hf, rfl⟩))), rfl⟩
      · cases h
    case h_10 cs0 m e ht =>
      split at h
      · rename_i hl
        rw [if_pos hl]
        simp only [Option.map_eq_some_iff] at h ⊢
        obtain ⟨xs, h1, rfl⟩ := h
        exact ⟨xs, mapM_carry h1 (fun f y _ hy hv => ih _ _ _ hv (fun p hp => hs p (by simp only [List.mem_flatMap]; exact ⟨y, hy, hp⟩)) ((hc _ _ hS ht).1 e (by simp [subT]))), rfl⟩
      · cases h
    case h_14 k e b ht =>
      split at h
      · rename_i es clock hbk
        split at h
        · rename_i hcond
          rw [if_pos hcond]
          simp only [Option.bind_eq_some_iff] at h ⊢
          obtain ⟨entries, he, hd⟩ := h
          split at hd
          · rename_i hris
            simp only [Option.some.injEq] at hd
            subst hd
            refine ⟨entries, mapM_carry he (fun x y _ hy hv => ?_), by simp [hris]⟩
            simp only [Option.bind_eq_some_iff] at hv ⊢
            obtain ⟨key, hk, hz⟩ := hv
            refine ⟨key, hk, ?_⟩
            split at hz
            · rename_i hf
              rw [if_pos hf]
              simp only [Option.map_eq_some_iff] at hz ⊢
              obtain ⟨q, hq, rfl⟩ := hz
              exact ⟨q, ih _ _ _ hq (fun p hp => hs p (by simp only [List.mem_cons, List.mem_flatMap]; right; exact ⟨_, hy, hp⟩)) ((hc _ _ hS ht).1 e (by simp [subT])), rfl⟩
            · cases hz
          · cases hd
        · cases h
      · cases h
    all_goals exact h

theorem trodAll_kept {sp : Nat → Bool} {S : TypeId → Prop} (hc : TClosed P S) : ∀ {ts : List TypeId} {vs : List Value} {ds : List (DataW H)} {ps : List MemPlace},
    DataW.TrodAll enc P w 0 (fun _ => true) true ts vs ds ps → (∀ p ∈ ps, w.sameAt w' p) → (∀ p ∈ ps, sp p.block = true) → (∀ t ∈ ts, S t) → DataW.TrodAll enc P w' 0 sp true ts vs ds ps
  | [], [], [], _, h, _, _, _ => h
  | _ :: _, _ :: _, _ :: _, _, ⟨p, q, ⟨n, hn⟩, hs, e⟩, h1, h2, h3 => by
    subst e
    refine ⟨p, q, ⟨n, ?_⟩, trodAll_kept hc hs (fun x hx => h1 x (List.mem_append_right _ hx)) (fun x hx => h2 x (List.mem_append_right _ hx)) (fun t ht => h3 t (List.mem_cons_of_mem _ ht)), rfl⟩
    exact trod_sp hc n _ _ _ (DataW.trod_carry n _ _ _ hn (fun x hx => h1 x (List.mem_append_left _ hx))) (fun x hx => h2 x (List.mem_append_left _ hx)) (h3 _ List.mem_cons_self)
/-- The word behind the call: it answers true, and all that there was is as it was. -/
theorem post_kept {f : Func} {s : ChangeSpec} {W W' : World} {args : Array Value} {ds : List (DataW H)} {before : List MemPlace} {S : TypeId → Prop} (hc : TClosed P S) (hS : ∀ t ∈ f.params.toList, S t) (hbool : P.underlying 4 = some .bool)
    (hv : s.vars = []) (hf : f.resultTypes = #[4]) (hs : s.fn H ds = { results := [.lit (.bool true)], args := ds })
    (hW : DataW.Whole enc P f.params.toList s.vars false W args.toList ds [] before) (hb : Below W.heap.size W W') : s.post enc P f false true false false W args (.bool true) W' := by
  have hlt := hW.lt
  have hW0 := hW
  obtain ⟨p, q, hA, hV, rfl, hz, _⟩ := hW
  rw [hv] at hV
  obtain ⟨_, rfl⟩ := trodVars_none hV
  have hold : ∀ x ∈ p ++ [], (fun b => decide (b < W.heap.size)) x.block = true := fun x hx => by simpa using hlt x hx
  have hsame : ∀ x ∈ p, W.sameAt W' x := fun x hx => hb.same (hlt x (by simpa using hx))
  refine ⟨ds, [], p ++ [], [], p, [], hW0, ?_, ?_, ?_, World.keptBut_mono (fun x hx => ⟨hx, .inr (.inl (by simpa using hx))⟩) (hb.frame (· ∈ p ++ [])), fun h => by cases h⟩
  · rw [hf, List.append_nil, hs]
    exact trodAll_mk1 (shut_bool hbool _)
  · rw [List.append_nil, hs]
    exact trodAll_kept hc hA hsame (fun x hx => hold x (by simpa using hx)) hS
  · rw [hv, List.append_nil, hs]
    exact rfl
end Go.Proofs.YtlkkiimmangplaaGreatDoor

/- What comes in, opened: numbers, texts, slices, entries. -/
namespace Go.Proofs.YtlkkiimmangplaaGreatDoor
open Go Go.RowKit
set_option linter.unusedVariables false
set_option linter.unusedSimpArgs false

set_option maxRecDepth 100000

open Go.ChangeShapes Go.WideShapes Go.ChangeAt
variable {H : Type} {enc : TypeId × Value → H} {w : World}
abbrev Wok (t : TypeId) (d : DataW H) : Prop := (d.weights Tryz.prog t).all (fun n => decide (n ≤ reachBytes)) = true
theorem wok_each : ∀ {ts : List TypeId} {ds : List (DataW H)}, (DataW.weightsEach Tryz.prog ts ds).all (fun n => decide (n ≤ reachBytes)) = true → ∀ (i : Nat) (t : TypeId) (d : DataW H), ts[i]? = some t → ds[i]? = some d → Wok t d
  | [], _, _, i, t, d, ht, _ => by simp at ht
  | _ :: _, [], _, i, t, d, _, hd => by simp at hd
  | t0 :: ts, d0 :: ds, h, i, t, d, ht, hd => by
    unfold DataW.weightsEach at h
    rw [List.all_append, Bool.and_eq_true] at h
    cases i with
    | zero => simp at ht hd; subst ht; subst hd; exact h.1
    | succ i => exact wok_each h.2 i t d (by simpa using ht) (by simpa using hd)
theorem wok_all {e : TypeId} : ∀ {ds : List (DataW H)}, (DataW.weightsAll Tryz.prog e ds).all (fun n => decide (n ≤ reachBytes)) = true → ∀ d ∈ ds, Wok e d
  | [], _, d, hd => by cases hd
  | d0 :: ds, h, d, hd => by
    unfold DataW.weightsAll at h
    rw [List.all_append, Bool.and_eq_true] at h
    rcases List.mem_cons.1 hd with rfl | hd
    · exact h.1
    · exact wok_all h.2 d hd
theorem reach_is : reachBytes = 140737488351232 := rfl
theorem wok_string {t : TypeId} {s : ByteArray} (h : Wok (H := H) t (.lit (.string s.data.toList))) : s.size ≤ 140737488351232 := by
  unfold Wok DataW.weights at h
  rw [List.all_cons, Bool.and_eq_true, decide_eq_true_eq, reach_is] at h
  exact h.1
theorem add_zero (a : Addr) : a.add 0 = a := by simp [Addr.add]
theorem cut_list (cs : List Value) (o n m : Nat) (h : o + n = m) : cs.drop o = (cs.drop o).take n ++ cs.drop m := by
  subst h
  rw [← List.drop_drop]
  exact (List.take_append_drop _ _).symm
/-- A slice whose elements read. -/
theorem open_slice_cells {t e sz : Nat} {fuel : Nat} {cs : List Value} {x : DataW H × List MemPlace} (ht : Tryz.prog.underlying t = some (.slice e)) (hsz : Tryz.prog.cellsOf e = sz) (h0 : 0 < sz) (hby : 1 ≤ Tryz.prog.bytesOf e)
    (h : DataW.trod enc Tryz.prog w 0 (fun _ => true) true fuel t cs = some x) (hw : Wok t x.1) {R : List Value → Prop} (hR : ∀ n cs y, DataW.trod enc Tryz.prog w 0 (fun _ => true) true n e cs = some y → Wok e y.1 → R cs) :
    ∃ (A : Option Addr) (len cap : Nat) (xs : List (List Value)), cs = [.slice A len cap] ∧ len ≤ cap ∧ cap ≤ 140737488351232 ∧ xs.length = len ∧ (∀ c ∈ xs, R c) ∧ (A = none → cap = 0) ∧
      (0 < len → ∃ b off, A = some ⟨b, off, none⟩ ∧ ∀ (k : Nat) (c : List Value), xs[k]? = some c → ∀ (i : Nat) (u : Value), c[i]? = some u → w.cell? ⟨b, off + (k : Int).toNat * sz + i, none⟩ = some u) := by
  rcases DataW.trod_slice ht h with ⟨rfl, rfl⟩ | ⟨a, len, cap, elems, rest, n, rfl, rfl, rfl, _, hl, hm, hlen, hel, hrest, _⟩
  · exact ⟨none, 0, 0, [], rfl, Nat.le_refl _, by decide, rfl, (fun c hc => by cases hc), (fun _ => rfl), fun h => absurd h (by decide)⟩
  · have hr := (hrest rfl).1
    have hw1 : ((elems.length + rest.length) * Tryz.prog.bytesOf e ≤ reachBytes) ∧ (DataW.weightsAll Tryz.prog e (elems.map (·.1))).all (fun n => decide (n ≤ reachBytes)) = true := by
      unfold Wok at hw
      unfold DataW.weights at hw
      rw [ht] at hw
      simp only [List.length_map, List.all_cons, List.all_append, Bool.and_eq_true, decide_eq_true_eq] at hw
      exact ⟨hw.1, hw.2.1⟩
    have hcap : cap ≤ 140737488351232 := by
      have h1 : (elems.length + rest.length) * 1 ≤ (elems.length + rest.length) * Tryz.prog.bytesOf e := Nat.mul_le_mul_left _ hby
      have := hw1.1
      rw [reach_is] at this
      omega
    have hE : ∀ i, i < len → ∃ c y, w.cells? 0 (a.add (i * sz)) sz = some c ∧ DataW.trod enc Tryz.prog w 0 (fun _ => true) true n e c = some y ∧ elems[i]? = some y := fun i hi => by
      have h1 := hel i hi
      rw [hsz, List.getElem?_eq_getElem (by omega)] at h1
      obtain ⟨c, h2, h3⟩ := Option.bind_eq_some_iff.1 h1
      exact ⟨c, _, h2, h3, List.getElem?_eq_getElem (by omega)⟩
    refine ⟨some a, len, cap, (List.range len).map (fun i => (w.cells? 0 (a.add (i * sz)) sz).getD []), rfl, hl, hcap, by simp, ?_, (fun h => by cases h), ?_⟩
    · intro c hc
      obtain ⟨i, hi, rfl⟩ := List.mem_map.1 hc
      obtain ⟨c, y, h2, h3, h4⟩ := hE i (List.mem_range.1 hi)
      rw [h2]
      exact hR n c y h3 (wok_all hw1.2 y.1 (List.mem_map.2 ⟨y, List.mem_of_getElem? h4, rfl⟩))
    · intro hp
      obtain ⟨c0, y0, h2, _, _⟩ := hE 0 hp
      obtain ⟨_, hl0, hc0⟩ := World.cells?_some h2
      have h5 := hc0 0 h0
      rw [List.getElem?_eq_getElem (by omega), Nat.zero_mul, add_zero, add_zero] at h5
      have hs := World.cell?_spot h5
      obtain ⟨b, off, sp⟩ := a
      simp only at hs
      subst hs
      refine ⟨b, off, rfl, fun k c hk i u hu => ?_⟩
      rw [List.getElem?_map] at hk
      obtain ⟨k', hk', rfl⟩ := Option.map_eq_some_iff.1 hk
      have hkl : k < len := by
        rcases Nat.lt_or_ge k len with h | h
        · exact h
        · rw [List.getElem?_eq_none (by simpa using h)] at hk'; cases hk'
      rw [List.getElem?_range hkl] at hk'
      simp at hk'
      subst hk'
      obtain ⟨c, y, h6, _, _⟩ := hE k hkl
      rw [h6] at hu
      simp only [Option.getD_some] at hu
      obtain ⟨_, hl6, hc6⟩ := World.cells?_some h6
      have hi : i < sz := by
        have := (List.getElem?_eq_some_iff.1 hu).1
        omega
      have := hc6 i hi
      rw [add0, add0, hu] at this
      simpa using this
theorem choose_list {α : Type} {E : α → List Value} {p : α → Prop} : ∀ {xs : List (List Value)}, (∀ c ∈ xs, ∃ y, c = E y ∧ p y) → ∃ ys : List α, xs = ys.map E ∧ ∀ y ∈ ys, p y
  | [], _ => ⟨[], rfl, fun y hy => by cases hy⟩
  | c :: xs, h => by
    obtain ⟨y, rfl, hy⟩ := h c (by simp)
    obtain ⟨ys, rfl, hys⟩ := choose_list (xs := xs) (fun c hc => h c (by simp [hc]))
    exact ⟨y :: ys, rfl, fun z hz => by
      rcases List.mem_cons.1 hz with rfl | hz
      · exact hy
      · exact hys z hz⟩
/-- A slice as my reading says it. -/
theorem open_sl {α : Type} (E : α → List Value) (p : α → Prop) {t e sz : Nat} {fuel : Nat} {cs : List Value} {x : DataW H × List MemPlace} (ht : Tryz.prog.underlying t = some (.slice e)) (hsz : Tryz.prog.cellsOf e = sz) (h0 : 0 < sz) (hby : 1 ≤ Tryz.prog.bytesOf e)
    (h : DataW.trod enc Tryz.prog w 0 (fun _ => true) true fuel t cs = some x) (hw : Wok t x.1) (hR : ∀ n cs y, DataW.trod enc Tryz.prog w 0 (fun _ => true) true n e cs = some y → Wok e y.1 → ∃ y, cs = E y ∧ p y) :
    ∃ (A : Option Addr) (cap : Nat) (ys : List α), cs = [.slice A ys.length cap] ∧ ys.length ≤ cap ∧ cap ≤ 140737488351232 ∧ (∀ y ∈ ys, p y) ∧ Sl E sz w A ys ∧ (A = none → cap = 0) := by
  obtain ⟨A, len, cap, xs, rfl, h1, h2, rfl, h4, h6, h5⟩ := open_slice_cells ht hsz h0 hby h hw hR
  obtain ⟨ys, rfl, hp⟩ := choose_list h4
  rw [List.length_map] at h1 h5 ⊢
  refine ⟨A, cap, ys, rfl, h1, h2, hp, ⟨by omega, fun hpos => ?_⟩, h6⟩
  obtain ⟨b, off, rfl, hc⟩ := h5 hpos
  exact ⟨b, off, rfl, fun k y hk i u hu => hc k (E y) (by rw [List.getElem?_map, hk]; rfl) i u hu⟩
abbrev I64 (n : Int) : Prop := -9223372036854775808 ≤ n ∧ n ≤ 9223372036854775807
theorem wf_i64 {n : Int} (h : (Lit.int .i64 n).wf = true) : I64 n := by
  simp [Lit.wf, IntKind.min, IntKind.max, IntKind.signed, IntKind.bits] at h
  unfold I64; omega
theorem wf_u8 {n : Int} (h : (Lit.int .u8 n).wf = true) : 0 ≤ n ∧ n < 256 := by
  simp [Lit.wf, IntKind.min, IntKind.max, IntKind.signed, IntKind.bits] at h
  omega
theorem bytes3 : 1 ≤ Tryz.prog.bytesOf 3 := by rw [show Tryz.prog.bytesOf 3 = 8 by kernel_rfl]; decide
theorem bytes51 : 1 ≤ Tryz.prog.bytesOf 51 := by rw [show Tryz.prog.bytesOf 51 = 32 by kernel_rfl]; decide
theorem cells3 : Tryz.prog.cellsOf 3 = 1 := by kernel_rfl
theorem cells4 : Tryz.prog.cellsOf 4 = 1 := by kernel_rfl
theorem cells9 : Tryz.prog.cellsOf 9 = 1 := by kernel_rfl
theorem cells22 : Tryz.prog.cellsOf 22 = 1 := by kernel_rfl
theorem cells32 : Tryz.prog.cellsOf 32 = 1 := by kernel_rfl
theorem cells31 : Tryz.prog.cellsOf 31 = 21 := by kernel_rfl
theorem cells34 : Tryz.prog.cellsOf 34 = 33 := by kernel_rfl
theorem cells51 : Tryz.prog.cellsOf 51 = 3 := by kernel_rfl
variable {n : Nat} {cs : List Value} {x : DataW H × List MemPlace}
abbrev Td (enc : TypeId × Value → H) (w : World) (n t : Nat) (cs : List Value) (x : DataW H × List MemPlace) : Prop := DataW.trod enc Tryz.prog w 0 (fun _ => true) true n t cs = some x
theorem op3 (h : Td enc w n 3 cs x) : ∃ k, cs = [.int .i64 k] ∧ I64 k := by
  obtain ⟨k, h1, _, h2⟩ := DataW.trod_int Tryz.underlying3 h
  exact ⟨k, h1, wf_i64 h2⟩
theorem op5 (h : Td enc w n 5 cs x) : ∃ k, cs = [.int .u8 k] ∧ 0 ≤ k ∧ k < 256 := by
  obtain ⟨k, h1, _, h2⟩ := DataW.trod_int Tryz.underlying5 h
  exact ⟨k, h1, wf_u8 h2⟩
theorem op4 (h : Td enc w n 4 cs x) : ∃ b, cs = [.bool b] := by
  obtain ⟨k, h1, _⟩ := DataW.trod_bool Tryz.underlying4 h
  exact ⟨k, h1⟩
theorem op9 (h : Td enc w n 9 cs x) (hw : Wok 9 x.1) : ∃ s, cs = [.string s] ∧ s.size ≤ 140737488351232 := by
  obtain ⟨s, h1, rfl, _⟩ := DataW.trod_string Tryz.underlying9 h
  exact ⟨s, h1, wok_string hw⟩
theorem op22 (h : Td enc w n 22 cs x) (hw : Wok 22 x.1) : ∃ (A : Option Addr) (cap : Nat) (ys : List Int), cs = [.slice A ys.length cap] ∧ ys.length ≤ cap ∧ cap ≤ 140737488351232 ∧ (∀ y ∈ ys, I64 y) ∧ Sl encI 1 w A ys ∧ (A = none → cap = 0) :=
  open_sl encI I64 Tryz.underlying22 cells3 (by decide) bytes3 h hw (fun n cs y h _ => op3 h)
set_option maxRecDepth 100000 in
theorem op51 (h : Td enc w n 51 cs x) (hw : Wok 51 x.1) : ∃ g : Gr, cs = g.cells ∧ (g.who.size ≤ 140737488351232 ∧ I64 g.level) := by
  obtain ⟨xs, m, rfl, rfl, hl, hxs, hel⟩ := DataW.trod_struct Tryz.underlying51 h
  have hw' : (DataW.weightsEach Tryz.prog [9, 4, 3] (xs.map (·.1))).all (fun n => decide (n ≤ reachBytes)) = true := by
    unfold Wok at hw
    unfold DataW.weights at hw
    rw [Tryz.underlying51] at hw
    exact hw
  rw [cells51] at hl
  replace hxs : xs.length = 3 := hxs
  have g0 : Td enc w m 9 ((cs.drop 0).take 1) xs[0] := by
    have g : DataW.trod enc Tryz.prog w 0 (fun _ => true) true m 9 ((cs.drop 0).take (Tryz.prog.cellsOf 9)) = xs[0]? := hel 0 _ rfl
    rw [cells9, List.getElem?_eq_getElem (by omega)] at g
    exact g
  have q0 : Wok 9 xs[0].1 := wok_each hw' 0 _ _ rfl (by rw [List.getElem?_map, List.getElem?_eq_getElem (by omega)]; rfl)
  obtain ⟨f0, e0, b0⟩ := op9 g0 q0
  have g1 : Td enc w m 4 ((cs.drop 1).take 1) xs[1] := by
    have g : DataW.trod enc Tryz.prog w 0 (fun _ => true) true m 4 ((cs.drop 1).take (Tryz.prog.cellsOf 4)) = xs[1]? := hel 1 _ rfl
    rw [cells4, List.getElem?_eq_getElem (by omega)] at g
    exact g
  obtain ⟨f1, e1⟩ := op4 g1
  have g2 : Td enc w m 3 ((cs.drop 2).take 1) xs[2] := by
    have g : DataW.trod enc Tryz.prog w 0 (fun _ => true) true m 3 ((cs.drop 2).take (Tryz.prog.cellsOf 3)) = xs[2]? := hel 2 _ rfl
    rw [cells3, List.getElem?_eq_getElem (by omega)] at g
    exact g
  obtain ⟨f2, e2, b2⟩ := op3 g2
  have ee : cs.drop 0 = [.string f0] ++ ([.bool f1] ++ ([.int .i64 f2] ++ [])) := by
    rw [cut_list cs 0 1 1 rfl, e0, cut_list cs 1 1 2 rfl, e1, cut_list cs 2 1 3 rfl, e2, show cs.drop 3 = [] from List.drop_eq_nil_of_le (by omega)]
  rw [List.drop_zero] at ee
  exact ⟨⟨f0, f1, f2⟩, ee, b0, b2⟩

structure DSb (d : DS) : Prop where
  id : I64 d.id
  org : I64 d.org
  format : I64 d.format
  length : I64 d.length
  block : I64 d.block
  keyAt : I64 d.keyAt
  keyLength : I64 d.keyLength
  interval : I64 d.interval
  area : I64 d.area
  freeInterval : I64 d.freeInterval
  freeArea : I64 d.freeArea
  base : I64 d.base
  altAt : I64 d.altAt
  altLength : I64 d.altLength
  cls : I64 d.cls
  volume : d.volume.size ≤ 140737488351232
  owner : d.owner.size ≤ 140737488351232
  created : I64 d.created
  expires : I64 d.expires

set_option maxRecDepth 100000 in
theorem op31 (h : Td enc w n 31 cs x) (hw : Wok 31 x.1) : ∃ d : DS, cs = d.cells.toList ∧ DSb d := by
  obtain ⟨xs, m, rfl, rfl, hl, hxs, hel⟩ := DataW.trod_struct Tryz.underlying31 h
  have hw' : (DataW.weightsEach Tryz.prog [3, 3, 3, 3, 3, 3, 3, 3, 3, 3, 3, 3, 3, 3, 4, 3, 9, 9, 3, 3, 4] (xs.map (·.1))).all (fun n => decide (n ≤ reachBytes)) = true := by
    unfold Wok at hw
    unfold DataW.weights at hw
    rw [Tryz.underlying31] at hw
    exact hw
  rw [cells31] at hl
  replace hxs : xs.length = 21 := hxs
  have g0 : Td enc w m 3 ((cs.drop 0).take 1) xs[0] := by
    have g : DataW.trod enc Tryz.prog w 0 (fun _ => true) true m 3 ((cs.drop 0).take (Tryz.prog.cellsOf 3)) = xs[0]? := hel 0 _ rfl
    rw [cells3, List.getElem?_eq_getElem (by omega)] at g
    exact g
  obtain ⟨f0, e0, b0⟩ := op3 g0
  have g1 : Td enc w m 3 ((cs.drop 1).take 1) xs[1] := by
    have g : DataW.trod enc Tryz.prog w 0 (fun _ => true) true m 3 ((cs.drop 1).take (Tryz.prog.cellsOf 3)) = xs[1]? := hel 1 _ rfl
    rw [cells3, List.getElem?_eq_getElem (by omega)] at g
    exact g
  obtain ⟨f1, e1, b1⟩ := op3 g1
  have g2 : Td enc w m 3 ((cs.drop 2).take 1) xs[2] := by
    have g : DataW.trod enc Tryz.prog w 0 (fun _ => true) true m 3 ((cs.drop 2).take (Tryz.prog.cellsOf 3)) = xs[2]? := hel 2 _ rfl
    rw [cells3, List.getElem?_eq_getElem (by omega)] at g
    exact g
  obtain ⟨f2, e2, b2⟩ := op3 g2
  have g3 : Td enc w m 3 ((cs.drop 3).take 1) xs[3] := by
    have g : DataW.trod enc Tryz.prog w 0 (fun _ => true) true m 3 ((cs.drop 3).take (Tryz.prog.cellsOf 3)) = xs[3]? := hel 3 _ rfl
    rw [cells3, List.getElem?_eq_getElem (by omega)] at g
    exact g
  obtain ⟨f3, e3, b3⟩ := op3 g3
  have g4 : Td enc w m 3 ((cs.drop 4).take 1) xs[4] := by
    have g : DataW.trod enc Tryz.prog w 0 (fun _ => true) true m 3 ((cs.drop 4).take (Tryz.prog.cellsOf 3)) = xs[4]? := hel 4 _ rfl
    rw [cells3, List.getElem?_eq_getElem (by omega)] at g
    exact g
  obtain ⟨f4, e4, b4⟩ := op3 g4
  have g5 : Td enc w m 3 ((cs.drop 5).take 1) xs[5] := by
    have g : DataW.trod enc Tryz.prog w 0 (fun _ => true) true m 3 ((cs.drop 5).take (Tryz.prog.cellsOf 3)) = xs[5]? := hel 5 _ rfl
    rw [cells3, List.getElem?_eq_getElem (by omega)] at g
    exact g
  obtain ⟨f5, e5, b5⟩ := op3 g5
  have g6 : Td enc w m 3 ((cs.drop 6).take 1) xs[6] := by
    have g : DataW.trod enc Tryz.prog w 0 (fun _ => true) true m 3 ((cs.drop 6).take (Tryz.prog.cellsOf 3)) = xs[6]? := hel 6 _ rfl
    rw [cells3, List.getElem?_eq_getElem (by omega)] at g
    exact g
  obtain ⟨f6, e6, b6⟩ := op3 g6
  have g7 : Td enc w m 3 ((cs.drop 7).take 1) xs[7] := by
    have g : DataW.trod enc Tryz.prog w 0 (fun _ => true) true m 3 ((cs.drop 7).take (Tryz.prog.cellsOf 3)) = xs[7]? := hel 7 _ rfl
    rw [cells3, List.getElem?_eq_getElem (by omega)] at g
    exact g
  obtain ⟨f7, e7, b7⟩ := op3 g7
  have g8 : Td enc w m 3 ((cs.drop 8).take 1) xs[8] := by
    have g : DataW.trod enc Tryz.prog w 0 (fun _ => true) true m 3 ((cs.drop 8).take (Tryz.prog.cellsOf 3)) = xs[8]? := hel 8 _ rfl
    rw [cells3, List.getElem?_eq_getElem (by omega)] at g
    exact g
  obtain ⟨f8, e8, b8⟩ := op3 g8
  have g9 : Td enc w m 3 ((cs.drop 9).take 1) xs[9] := by
    have g : DataW.trod enc Tryz.prog w 0 (fun _ => true) true m 3 ((cs.drop 9).take (Tryz.prog.cellsOf 3)) = xs[9]? := hel 9 _ rfl
    rw [cells3, List.getElem?_eq_getElem (by omega)] at g
    exact g
  obtain ⟨f9, e9, b9⟩ := op3 g9
  have g10 : Td enc w m 3 ((cs.drop 10).take 1) xs[10] := by
    have g : DataW.trod enc Tryz.prog w 0 (fun _ => true) true m 3 ((cs.drop 10).take (Tryz.prog.cellsOf 3)) = xs[10]? := hel 10 _ rfl
    rw [cells3, List.getElem?_eq_getElem (by omega)] at g
    exact g
  obtain ⟨f10, e10, b10⟩ := op3 g10
  have g11 : Td enc w m 3 ((cs.drop 11).take 1) xs[11] := by
    have g : DataW.trod enc Tryz.prog w 0 (fun _ => true) true m 3 ((cs.drop 11).take (Tryz.prog.cellsOf 3)) = xs[11]? := hel 11 _ rfl
    rw [cells3, List.getElem?_eq_getElem (by omega)] at g
    exact g
  obtain ⟨f11, e11, b11⟩ := op3 g11
  have g12 : Td enc w m 3 ((cs.drop 12).take 1) xs[12] := by
    have g : DataW.trod enc Tryz.prog w 0 (fun _ => true) true m 3 ((cs.drop 12).take (Tryz.prog.cellsOf 3)) = xs[12]? := hel 12 _ rfl
    rw [cells3, List.getElem?_eq_getElem (by omega)] at g
    exact g
  obtain ⟨f12, e12, b12⟩ := op3 g12
  have g13 : Td enc w m 3 ((cs.drop 13).take 1) xs[13] := by
    have g : DataW.trod enc Tryz.prog w 0 (fun _ => true) true m 3 ((cs.drop 13).take (Tryz.prog.cellsOf 3)) = xs[13]? := hel 13 _ rfl
    rw [cells3, List.getElem?_eq_getElem (by omega)] at g
    exact g
  obtain ⟨f13, e13, b13⟩ := op3 g13
  have g14 : Td enc w m 4 ((cs.drop 14).take 1) xs[14] := by
    have g : DataW.trod enc Tryz.prog w 0 (fun _ => true) true m 4 ((cs.drop 14).take (Tryz.prog.cellsOf 4)) = xs[14]? := hel 14 _ rfl
    rw [cells4, List.getElem?_eq_getElem (by omega)] at g
    exact g
  obtain ⟨f14, e14⟩ := op4 g14
  have g15 : Td enc w m 3 ((cs.drop 15).take 1) xs[15] := by
    have g : DataW.trod enc Tryz.prog w 0 (fun _ => true) true m 3 ((cs.drop 15).take (Tryz.prog.cellsOf 3)) = xs[15]? := hel 15 _ rfl
    rw [cells3, List.getElem?_eq_getElem (by omega)] at g
    exact g
  obtain ⟨f15, e15, b15⟩ := op3 g15
  have g16 : Td enc w m 9 ((cs.drop 16).take 1) xs[16] := by
    have g : DataW.trod enc Tryz.prog w 0 (fun _ => true) true m 9 ((cs.drop 16).take (Tryz.prog.cellsOf 9)) = xs[16]? := hel 16 _ rfl
    rw [cells9, List.getElem?_eq_getElem (by omega)] at g
    exact g
  have q16 : Wok 9 xs[16].1 := wok_each hw' 16 _ _ rfl (by rw [List.getElem?_map, List.getElem?_eq_getElem (by omega)]; rfl)
  obtain ⟨f16, e16, b16⟩ := op9 g16 q16
  have g17 : Td enc w m 9 ((cs.drop 17).take 1) xs[17] := by
    have g : DataW.trod enc Tryz.prog w 0 (fun _ => true) true m 9 ((cs.drop 17).take (Tryz.prog.cellsOf 9)) = xs[17]? := hel 17 _ rfl
    rw [cells9, List.getElem?_eq_getElem (by omega)] at g
    exact g
  have q17 : Wok 9 xs[17].1 := wok_each hw' 17 _ _ rfl (by rw [List.getElem?_map, List.getElem?_eq_getElem (by omega)]; rfl)
  obtain ⟨f17, e17, b17⟩ := op9 g17 q17
  have g18 : Td enc w m 3 ((cs.drop 18).take 1) xs[18] := by
    have g : DataW.trod enc Tryz.prog w 0 (fun _ => true) true m 3 ((cs.drop 18).take (Tryz.prog.cellsOf 3)) = xs[18]? := hel 18 _ rfl
    rw [cells3, List.getElem?_eq_getElem (by omega)] at g
    exact g
  obtain ⟨f18, e18, b18⟩ := op3 g18
  have g19 : Td enc w m 3 ((cs.drop 19).take 1) xs[19] := by
    have g : DataW.trod enc Tryz.prog w 0 (fun _ => true) true m 3 ((cs.drop 19).take (Tryz.prog.cellsOf 3)) = xs[19]? := hel 19 _ rfl
    rw [cells3, List.getElem?_eq_getElem (by omega)] at g
    exact g
  obtain ⟨f19, e19, b19⟩ := op3 g19
  have g20 : Td enc w m 4 ((cs.drop 20).take 1) xs[20] := by
    have g : DataW.trod enc Tryz.prog w 0 (fun _ => true) true m 4 ((cs.drop 20).take (Tryz.prog.cellsOf 4)) = xs[20]? := hel 20 _ rfl
    rw [cells4, List.getElem?_eq_getElem (by omega)] at g
    exact g
  obtain ⟨f20, e20⟩ := op4 g20
  have ee : cs.drop 0 = [.int .i64 f0] ++ ([.int .i64 f1] ++ ([.int .i64 f2] ++ ([.int .i64 f3] ++ ([.int .i64 f4] ++ ([.int .i64 f5] ++ ([.int .i64 f6] ++ ([.int .i64 f7] ++ ([.int .i64 f8] ++ ([.int .i64 f9] ++ ([.int .i64 f10] ++ ([.int .i64 f11] ++ ([.int .i64 f12] ++ ([.int .i64 f13] ++ ([.bool f14] ++ ([.int .i64 f15] ++ ([.string f16] ++ ([.string f17] ++ ([.int .i64 f18] ++ ([.int .i64 f19] ++ ([.bool f20] ++ [])))))))))))))))))))) := by
    rw [cut_list cs 0 1 1 rfl, e0, cut_list cs 1 1 2 rfl, e1, cut_list cs 2 1 3 rfl, e2, cut_list cs 3 1 4 rfl, e3, cut_list cs 4 1 5 rfl, e4, cut_list cs 5 1 6 rfl, e5, cut_list cs 6 1 7 rfl, e6, cut_list cs 7 1 8 rfl, e7, cut_list cs 8 1 9 rfl, e8, cut_list cs 9 1 10 rfl, e9, cut_list cs 10 1 11 rfl, e10, cut_list cs 11 1 12 rfl, e11, cut_list cs 12 1 13 rfl, e12, cut_list cs 13 1 14 rfl, e13, cut_list cs 14 1 15 rfl, e14, cut_list cs 15 1 16 rfl, e15, cut_list cs 16 1 17 rfl, e16, cut_list cs 17 1 18 rfl, e17, cut_list cs 18 1 19 rfl, e18, cut_list cs 19 1 20 rfl, e19, cut_list cs 20 1 21 rfl, e20, show cs.drop 21 = [] from List.drop_eq_nil_of_le (by omega)]
  rw [List.drop_zero] at ee
  exact ⟨⟨f0, f1, f2, f3, f4, f5, f6, f7, f8, f9, f10, f11, f12, f13, f14, f15, f16, f17, f18, f19, f20⟩, ee, ⟨b0, b1, b2, b3, b4, b5, b6, b7, b8, b9, b10, b11, b12, b13, b15, b16, b17, b18, b19⟩⟩

theorem op32 (h : Td enc w n 32 cs x) (hw : Wok 32 x.1) : ∃ (A : Option Addr) (cap : Nat) (ys : List Gr), cs = [.slice A ys.length cap] ∧ ys.length ≤ cap ∧ cap ≤ 140737488351232 ∧ (∀ y ∈ ys, y.who.size ≤ 140737488351232 ∧ I64 y.level) ∧ Sl Gr.cells 3 w A ys ∧ (A = none → cap = 0) :=
  open_sl Gr.cells (fun g => g.who.size ≤ 140737488351232 ∧ I64 g.level) Tryz.underlying32 cells51 (by decide) bytes51 h hw (fun n cs y h hw => op51 h hw)
/-- An entry's numbers and texts are such as the machine bears. -/
structure Eb (e : E) : Prop where
  kind : I64 e.kind
  name : e.name.size ≤ 140737488351232
  ds : DSb e.ds
  altl : e.alt.length ≤ 140737488351232
  alt : ∀ y ∈ e.alt, I64 y
  used : I64 e.used
  limit : I64 e.limit
  last : I64 e.last
  owner : e.owner.size ≤ 140737488351232
  target : e.target.size ≤ 140737488351232
  catalog : I64 e.catalog
  level : I64 e.level
  grl : e.grants.length ≤ 140737488351232
  grants : ∀ y ∈ e.grants, y.who.size ≤ 140737488351232 ∧ I64 y.level

set_option maxRecDepth 100000 in
theorem op34 (h : Td enc w n 34 cs x) (hw : Wok 34 x.1) : ∃ (e : E) (va vg : Value), cs = (e.cells va vg).toList ∧ Eb e ∧ EntAt w e va vg := by
  obtain ⟨xs, m, rfl, rfl, hl, hxs, hel⟩ := DataW.trod_struct Tryz.underlying34 h
  have hw' : (DataW.weightsEach Tryz.prog [3, 9, 31, 22, 3, 3, 3, 4, 9, 9, 3, 3, 32] (xs.map (·.1))).all (fun n => decide (n ≤ reachBytes)) = true := by
    unfold Wok at hw
    unfold DataW.weights at hw
    rw [Tryz.underlying34] at hw
    exact hw
  rw [cells34] at hl
  replace hxs : xs.length = 13 := hxs
  have g0 : Td enc w m 3 ((cs.drop 0).take 1) xs[0] := by
    have g : DataW.trod enc Tryz.prog w 0 (fun _ => true) true m 3 ((cs.drop 0).take (Tryz.prog.cellsOf 3)) = xs[0]? := hel 0 _ rfl
    rw [cells3, List.getElem?_eq_getElem (by omega)] at g
    exact g
  obtain ⟨f0, e0, b0⟩ := op3 g0
  have g1 : Td enc w m 9 ((cs.drop 1).take 1) xs[1] := by
    have g : DataW.trod enc Tryz.prog w 0 (fun _ => true) true m 9 ((cs.drop 1).take (Tryz.prog.cellsOf 9)) = xs[1]? := hel 1 _ rfl
    rw [cells9, List.getElem?_eq_getElem (by omega)] at g
    exact g
  have q1 : Wok 9 xs[1].1 := wok_each hw' 1 _ _ rfl (by rw [List.getElem?_map, List.getElem?_eq_getElem (by omega)]; rfl)
  obtain ⟨f1, e1, b1⟩ := op9 g1 q1
  have g2 : Td enc w m 31 ((cs.drop 2).take 21) xs[2] := by
    have g : DataW.trod enc Tryz.prog w 0 (fun _ => true) true m 31 ((cs.drop 2).take (Tryz.prog.cellsOf 31)) = xs[2]? := hel 2 _ rfl
    rw [cells31, List.getElem?_eq_getElem (by omega)] at g
    exact g
  have q2 : Wok 31 xs[2].1 := wok_each hw' 2 _ _ rfl (by rw [List.getElem?_map, List.getElem?_eq_getElem (by omega)]; rfl)
  obtain ⟨f2, e2, b2⟩ := op31 g2 q2
  have g3 : Td enc w m 22 ((cs.drop 23).take 1) xs[3] := by
    have g : DataW.trod enc Tryz.prog w 0 (fun _ => true) true m 22 ((cs.drop 23).take (Tryz.prog.cellsOf 22)) = xs[3]? := hel 3 _ rfl
    rw [cells22, List.getElem?_eq_getElem (by omega)] at g
    exact g
  have q3 : Wok 22 xs[3].1 := wok_each hw' 3 _ _ rfl (by rw [List.getElem?_map, List.getElem?_eq_getElem (by omega)]; rfl)
  obtain ⟨A3, c3, f3, e3, le3, b3, p3, s3, z3⟩ := op22 g3 q3
  have g4 : Td enc w m 3 ((cs.drop 24).take 1) xs[4] := by
    have g : DataW.trod enc Tryz.prog w 0 (fun _ => true) true m 3 ((cs.drop 24).take (Tryz.prog.cellsOf 3)) = xs[4]? := hel 4 _ rfl
    rw [cells3, List.getElem?_eq_getElem (by omega)] at g
    exact g
  obtain ⟨f4, e4, b4⟩ := op3 g4
  have g5 : Td enc w m 3 ((cs.drop 25).take 1) xs[5] := by
    have g : DataW.trod enc Tryz.prog w 0 (fun _ => true) true m 3 ((cs.drop 25).take (Tryz.prog.cellsOf 3)) = xs[5]? := hel 5 _ rfl
    rw [cells3, List.getElem?_eq_getElem (by omega)] at g
    exact g
  obtain ⟨f5, e5, b5⟩ := op3 g5
  have g6 : Td enc w m 3 ((cs.drop 26).take 1) xs[6] := by
    have g : DataW.trod enc Tryz.prog w 0 (fun _ => true) true m 3 ((cs.drop 26).take (Tryz.prog.cellsOf 3)) = xs[6]? := hel 6 _ rfl
    rw [cells3, List.getElem?_eq_getElem (by omega)] at g
    exact g
  obtain ⟨f6, e6, b6⟩ := op3 g6
  have g7 : Td enc w m 4 ((cs.drop 27).take 1) xs[7] := by
    have g : DataW.trod enc Tryz.prog w 0 (fun _ => true) true m 4 ((cs.drop 27).take (Tryz.prog.cellsOf 4)) = xs[7]? := hel 7 _ rfl
    rw [cells4, List.getElem?_eq_getElem (by omega)] at g
    exact g
  obtain ⟨f7, e7⟩ := op4 g7
  have g8 : Td enc w m 9 ((cs.drop 28).take 1) xs[8] := by
    have g : DataW.trod enc Tryz.prog w 0 (fun _ => true) true m 9 ((cs.drop 28).take (Tryz.prog.cellsOf 9)) = xs[8]? := hel 8 _ rfl
    rw [cells9, List.getElem?_eq_getElem (by omega)] at g
    exact g
  have q8 : Wok 9 xs[8].1 := wok_each hw' 8 _ _ rfl (by rw [List.getElem?_map, List.getElem?_eq_getElem (by omega)]; rfl)
  obtain ⟨f8, e8, b8⟩ := op9 g8 q8
  have g9 : Td enc w m 9 ((cs.drop 29).take 1) xs[9] := by
    have g : DataW.trod enc Tryz.prog w 0 (fun _ => true) true m 9 ((cs.drop 29).take (Tryz.prog.cellsOf 9)) = xs[9]? := hel 9 _ rfl
    rw [cells9, List.getElem?_eq_getElem (by omega)] at g
    exact g
  have q9 : Wok 9 xs[9].1 := wok_each hw' 9 _ _ rfl (by rw [List.getElem?_map, List.getElem?_eq_getElem (by omega)]; rfl)
  obtain ⟨f9, e9, b9⟩ := op9 g9 q9
  have g10 : Td enc w m 3 ((cs.drop 30).take 1) xs[10] := by
    have g : DataW.trod enc Tryz.prog w 0 (fun _ => true) true m 3 ((cs.drop 30).take (Tryz.prog.cellsOf 3)) = xs[10]? := hel 10 _ rfl
    rw [cells3, List.getElem?_eq_getElem (by omega)] at g
    exact g
  obtain ⟨f10, e10, b10⟩ := op3 g10
  have g11 : Td enc w m 3 ((cs.drop 31).take 1) xs[11] := by
    have g : DataW.trod enc Tryz.prog w 0 (fun _ => true) true m 3 ((cs.drop 31).take (Tryz.prog.cellsOf 3)) = xs[11]? := hel 11 _ rfl
    rw [cells3, List.getElem?_eq_getElem (by omega)] at g
    exact g
  obtain ⟨f11, e11, b11⟩ := op3 g11
  have g12 : Td enc w m 32 ((cs.drop 32).take 1) xs[12] := by
    have g : DataW.trod enc Tryz.prog w 0 (fun _ => true) true m 32 ((cs.drop 32).take (Tryz.prog.cellsOf 32)) = xs[12]? := hel 12 _ rfl
    rw [cells32, List.getElem?_eq_getElem (by omega)] at g
    exact g
  have q12 : Wok 32 xs[12].1 := wok_each hw' 12 _ _ rfl (by rw [List.getElem?_map, List.getElem?_eq_getElem (by omega)]; rfl)
  obtain ⟨A12, c12, f12, e12, le12, b12, p12, s12, z12⟩ := op32 g12 q12
  have ee : cs.drop 0 = [.int .i64 f0] ++ ([.string f1] ++ (f2.cells.toList ++ ([.slice A3 f3.length c3] ++ ([.int .i64 f4] ++ ([.int .i64 f5] ++ ([.int .i64 f6] ++ ([.bool f7] ++ ([.string f8] ++ ([.string f9] ++ ([.int .i64 f10] ++ ([.int .i64 f11] ++ ([.slice A12 f12.length c12] ++ [])))))))))))) := by
    rw [cut_list cs 0 1 1 rfl, e0, cut_list cs 1 1 2 rfl, e1, cut_list cs 2 21 23 rfl, e2, cut_list cs 23 1 24 rfl, e3, cut_list cs 24 1 25 rfl, e4, cut_list cs 25 1 26 rfl, e5, cut_list cs 26 1 27 rfl, e6, cut_list cs 27 1 28 rfl, e7, cut_list cs 28 1 29 rfl, e8, cut_list cs 29 1 30 rfl, e9, cut_list cs 30 1 31 rfl, e10, cut_list cs 31 1 32 rfl, e11, cut_list cs 32 1 33 rfl, e12, show cs.drop 33 = [] from List.drop_eq_nil_of_le (by omega)]
  rw [List.drop_zero] at ee
  exact ⟨⟨f0, f1, f2, f3, f4, f5, f6, f7, f8, f9, f10, f11, f12⟩, _, _, ee, ⟨b0, b1, b2, Nat.le_trans le3 b3, p3, b4, b5, b6, b8, b9, b10, b11, Nat.le_trans le12 b12, p12⟩, ⟨⟨A3, c3, rfl, le3, s3⟩, ⟨A12, c12, rfl, le12, s12⟩⟩⟩

theorem agg_cells {cs : Array Value} {l : List Value} (h : (Value.agg cs).cells.toList = l) : cs = l.toArray := by
  subst h
  simp [Value.cells]
abbrev Own (t : TypeId) : Prop := t < 349
theorem ownClosed : TClosed Tryz.prog Own := by
  have hall : ((List.range 349).all fun t => match Tryz.prog.underlying t with | some d => (subT d).all (fun e => Nat.blt e 349) && (match d with | .slice e => Nat.blt 0 (Tryz.prog.cellsOf e) | _ => true) | _ => true) = true := by kernel_rfl
  intro t d hS ht
  have := List.all_eq_true.1 hall t (List.mem_range.2 hS)
  rw [ht] at this
  simp only [Bool.and_eq_true] at this
  refine ⟨fun e he => ?_, fun e he => ?_⟩
  · have h1 := List.all_eq_true.1 this.1 e he
    simpa [Nat.blt, Nat.succ_le_iff] using h1
  · subst he
    simpa [Nat.blt, Nat.succ_le_iff] using this.2

end Go.Proofs.YtlkkiimmangplaaGreatDoor

/- The laws on records: they return, they are strict, no part of one is one. -/
namespace Go.Proofs.YtlkkiimmangplaaGreatDoor
open Go.RowKit
set_option linter.unusedVariables false
set_option linter.unusedSimpArgs false

theorem few_lim {e : E} (h : few33 e = true) : e.name.size ≤ 60 ∧ e.owner.size + e.target.size + e.ds.volume.size + e.ds.owner.size ≤ 200 := by
  unfold few33 at h
  simp only [Bool.and_eq_true, decide_eq_true_eq] at h
  obtain ⟨_, h1, _, _, h2⟩ := h
  omega
theorem encV {e : E} (va vg : Value) (w : World) (hg : Good w) (ha : EntAt w e va vg) (hsz : e.name.size < 4294967281) (hv : validE e = true) : Calls Tryz.prog 54 #[.agg (e.cells va vg)] w (RetV w (.tuple #[.string (recE e), .int .i64 0])) := by
  have h := encodeE_any e va vg w hg ha hsz
  rw [hv, if_pos rfl] at h
  exact h
theorem decV {e : E} (w : World) (hg : Good w) (hv : validE e = true) : Calls Tryz.prog 56 #[.string (recE e)] w (Ret w (DecS e) (fun p => .tuple #[.agg (e.cells p.1 p.2.1), .int .i64 0]) (fun p => [p.2.2])) := by
  have h := decodeU (recE e) w hg (by have := rec_lim hv; omega)
  have e1 : decE (recE e) = e := by unfold decE; rw [dec_rec hv]; rfl
  have e2 : decC (recE e) = 0 := by unfold decC; rw [dec_rec hv]; rfl
  rw [e1, e2] at h
  exact h
theorem validV {e : E} (va vg : Value) (w : World) (hg : Good w) (ha : EntAt w e va vg) (hsz : e.name.size < 4294967281) (hv : validE e = true) : Calls Tryz.prog 47 #[.agg (e.cells va vg)] w (RetV w (.bool true)) := by
  have h := validE_any e va vg w hg ha hsz
  rw [hv] at h
  exact h
theorem sameV {e : E} (va vg ub ug : Value) (w : World) (ha : EntAt w e va vg) (hb : EntAt w e ub ug) : Calls Tryz.prog 34 #[.agg (e.cells va vg), .agg (e.cells ub ug)] w (RetV w (.bool true)) := by
  have h := same_any e e va vg ub ug w ha hb
  rw [decide_eq_true rfl] at h
  exact h
theorem prefix_any (s p : ByteArray) (w : World) : Calls Tryz.prog 58 #[.string s, .string p] w (RetV w (.bool (Lib.hasPrefix s.data.toList p.data.toList))) :=
  (Tryz.strings_HasPrefix s p w).mono fun e w' ⟨h1, h2⟩ => ⟨h1, by rw [h2]; exact St.refl w⟩
theorem isPre_app {α : Type} [BEq α] [LawfulBEq α] : ∀ (a b : List α), a.isPrefixOf (a ++ b) = true
  | [], b => by simp [List.isPrefixOf]
  | x :: a, b => by simp [List.isPrefixOf, isPre_app a b]
theorem keyE_kind {k : Int} {i : Nat} (hi : i < 5) (hk : k = (i : Int)) (s : ByteArray) : keyE k s = (kinds i).key s := by
  unfold keyE kindAt isKind
  rw [hk, decide_eq_true (by omega), decide_eq_true (by omega), Int.toNat_natCast]; rfl
theorem rec_pre {e : E} (hv : validE e = true) : Lib.hasPrefix (recE e).data.toList (keyE e.kind e.name).data.toList = true := by
  obtain ⟨i, hi, hk, _⟩ := validE_ex hv
  rw [recE_kind hi hk hv, keyE_kind hi hk, KF.record, data_append]
  exact isPre_app _ _

set_option maxRecDepth 100000 in
theorem returns33_law (e : E) (va vg : Value) (w : World) (hg : Good w) (ha : EntAt w e va vg) (hb : Eb e) :
    Calls Tryz.prog 14 #[.agg (e.cells va vg)] w (RetV w (.bool true)) := by
  have ha0 := ha
  obtain ⟨⟨A1, c1, rfl, hc1, hr1⟩, ⟨A2, c2, rfl, hc2, hr2⟩⟩ := ha
  refine enter Tryz.func14 rfl Tryz.ntmps14 rfl ?_
  refine WC.seq ?_
  refine WC.region ?_
  refine WL.box rfl rfl rfl (fun b1 => ?_)
  refine WL.p rfl rfl rfl (P.assign rfl) ?_
  refine WL.nil_ ?_
  refine End.seq ?_
  refine WC.seq ?_
  refine WC.seq ?_
  refine WC.region ?_
  refine WL.callv (ent_of Tryz.func45 rfl rfl) rfl rfl rfl (fun w hs => awake33_any w (hg.st hs)) ?_
  refine WL.p rfl rfl rfl (P.not_ rfl) ?_
  refine WL.nil_ ?_
  refine End.seq ?_
  refine WC.condF rfl ?_
  refine WC.skip ?_
  refine End.seq ?_
  refine WC.seq ?_
  refine WC.seq ?_
  refine WC.region ?_
  refine WL.p rfl rfl rfl (P.loadW 0 Tryz.isAgg34 Tryz.sizeOf34 rfl rfl rfl) ?_
  refine WL.callv (ent_of Tryz.func46 rfl rfl) rfl rfl rfl (fun w hs => few33_any e _ _ w (ha0.st hs) (by have := hb.owner; omega) (by have := hb.target; omega) (by have := hb.ds.volume; omega) (by have := hb.ds.owner; omega)) ?_
  refine WL.p rfl rfl rfl (P.not_ rfl) ?_
  refine WL.p rfl rfl rfl (P.move rfl) ?_
  refine WL.split 12 rfl (fun hs12 => ?_) (fun hs12 => ?_)
  ·
    refine WL.off rfl rfl ?_
    refine WL.off rfl rfl ?_
    refine WL.off rfl rfl ?_
    refine WL.p rfl rfl rfl (P.pickT rfl rfl) ?_
    refine WL.nil_ ?_
    refine End.seq ?_
    refine WC.condT rfl ?_
    refine WC.seq ?_
    refine WC.region ?_
    refine WL.p rfl rfl rfl (P.assign rfl) ?_
    refine WL.nil_ ?_
    refine End.seq ?_
    refine WC.ret ?_
    refine End.thenR ?_
    refine End.ret1 rfl rfl ?_
    exact fun w' hs' => RetV.of rfl hs'
  ·
    have hf : few33 e = true := by simpa using hs12
    have hl := few_lim hf
    refine WL.p rfl rfl rfl (P.loadW 0 Tryz.isAgg34 Tryz.sizeOf34 rfl rfl rfl) ?_
    refine WL.callv (ent_of Tryz.func47 rfl rfl) rfl rfl rfl (fun w hs => validE_any e _ _ w (hg.st hs) (ha0.st hs) (by omega)) ?_
    refine WL.p rfl rfl rfl (P.not_ rfl) ?_
    refine WL.p rfl rfl rfl (P.pickF rfl rfl) ?_
    refine WL.nil_ ?_
    refine End.seq ?_
    refine WC.cond rfl (fun hc16 => ?_) (fun hc16 => ?_)
    ·
      refine WC.seq ?_
      refine WC.region ?_
      refine WL.p rfl rfl rfl (P.assign rfl) ?_
      refine WL.nil_ ?_
      refine End.seq ?_
      refine WC.ret ?_
      refine End.thenR ?_
      refine End.ret1 rfl rfl ?_
      exact fun w' hs' => RetV.of rfl hs'
    ·
      have hv : validE e = true := by simpa using hc16
      refine WC.skip ?_
      refine End.seq ?_
      refine WC.seq ?_
      refine WC.region ?_
      refine WL.p rfl rfl rfl (P.loadW 0 Tryz.isAgg34 Tryz.sizeOf34 rfl rfl rfl) ?_
      refine WL.callv (ent_of Tryz.func54 rfl rfl) rfl rfl rfl (fun w hs => encV _ _ w (hg.st hs) (ha0.st hs) (by omega) hv) ?_
      refine WL.p rfl rfl rfl (P.move rfl) ?_
      refine WL.p rfl rfl rfl (P.extract rfl rfl) ?_
      refine WL.p rfl rfl rfl (P.extract rfl rfl) ?_
      refine WL.p rfl rfl rfl (P.assign rfl) ?_
      refine WL.p rfl rfl rfl (P.assign rfl) ?_
      refine WL.nil_ ?_
      refine End.seq ?_
      refine WC.seq ?_
      refine WC.region ?_
      refine WL.p rfl rfl rfl (P.move rfl) ?_
      refine WL.callx (ent_of Tryz.func56 rfl rfl) rfl rfl rfl (fun w hs => decV w (hg.st hs) hv) (fun p hp => ?_)
      refine WL.p rfl rfl rfl (P.move rfl) ?_
      refine WL.p rfl rfl rfl (P.extract rfl rfl) ?_
      refine WL.p rfl rfl rfl (P.extract rfl rfl) ?_
      refine WL.alloc Tryz.zeroValue34 rfl rfl (fun b5 => ?_)
      refine WL.storeW 0 Tryz.sizeOf34 rfl rfl rfl (E.one _ hp.1.1 hp.1.2) rfl rfl rfl ?_
      refine WL.p rfl rfl rfl (P.assign rfl) ?_
      refine WL.nil_ ?_
      refine End.seq ?_
      refine WC.seq ?_
      refine WC.region ?_
      refine WL.p rfl rfl rfl (P.move rfl) ?_
      refine WL.p rfl rfl rfl (P.cmp rfl rfl rfl) ?_
      refine WL.p rfl rfl rfl (P.move rfl) ?_
      refine WL.p rfl rfl rfl (P.move rfl) ?_
      refine WL.p rfl rfl rfl (P.cmp rfl rfl rfl) ?_
      refine WL.p rfl rfl rfl (P.pickT rfl rfl) ?_
      refine WL.p rfl rfl rfl (P.move rfl) ?_
      refine WL.p rfl rfl rfl (P.loadW 2 Tryz.isAgg34 Tryz.sizeOf34 rfl rfl rfl) ?_
      refine WL.p rfl rfl rfl (P.loadW 0 Tryz.isAgg34 Tryz.sizeOf34 rfl rfl rfl) ?_
      refine WL.callv (ent_of Tryz.func34 rfl rfl) rfl rfl rfl (fun w hs => sameV _ _ p.1 p.2.1 w (ha0.st hs) (hp.2 _ _ _ 1 hs rfl)) ?_
      refine WL.p rfl rfl rfl (P.pickT rfl rfl) ?_
      refine WL.p rfl rfl rfl (P.move rfl) ?_
      refine WL.p rfl rfl rfl (P.loadW 0 Tryz.isAgg34 Tryz.sizeOf34 rfl rfl rfl) ?_
      refine WL.callv (ent_of Tryz.func47 rfl rfl) rfl rfl rfl (fun w hs => validV p.1 p.2.1 w (hg.st hs) (hp.2 _ _ _ 1 hs rfl) (by omega) hv) ?_
      refine WL.p rfl rfl rfl (P.pickT rfl rfl) ?_
      refine WL.p rfl rfl rfl (P.move rfl) ?_
      refine WL.p rfl rfl rfl (P.move rfl) ?_
      refine WL.p rfl rfl rfl (P.lenS Tryz.underlying9 rfl) ?_
      refine WL.p rfl rfl rfl (P.cmp rfl rfl rfl) ?_
      refine WL.p rfl rfl rfl (P.pickT rfl rfl) ?_
      refine WL.p rfl rfl rfl (P.move rfl) ?_
      refine WL.split 47 rfl (fun hs47 => ?_) (fun hs47 => ?_)
      ·
        refine WL.p rfl rfl rfl (P.move rfl) ?_
        refine WL.p rfl rfl rfl (P.fieldAddr fa_34_0 rfl) ?_
        refine WL.p rfl rfl rfl (P.loadO 2 Tryz.isAgg3 rfl rfl rfl) ?_
        refine WL.p rfl rfl rfl (P.fieldAddr fa_34_1 rfl) ?_
        refine WL.p rfl rfl rfl (P.loadO 2 Tryz.isAgg9 rfl rfl rfl) ?_
        refine WL.callv (ent_of Tryz.func49 rfl rfl) rfl rfl rfl (fun w hs => keyE_any e.kind e.name w (by omega)) ?_
        refine WL.callv (ent_of Tryz.func58 rfl rfl) rfl rfl rfl (fun w hs => prefix_any _ _ w) ?_
        refine WL.p rfl rfl rfl (P.pickT rfl rfl) ?_
        refine WL.p rfl rfl rfl (P.assign rfl) ?_
        refine WL.nil_ ?_
        refine End.seq ?_
        refine WC.ret ?_
        refine End.ret1 rfl rfl ?_
        exact fun w' hs' => RetV.of (by rw [rec_pre hv]) hs'
      ·
        exact absurd hs47 (by have := rec_lim hv; simp; omega)

theorem dec_bad {s : ByteArray} (h : decC s ≠ 0) : decC s = 11 ∧ decE s = E.zero := by
  unfold decC decE at *
  cases hd : decOpt s with
  | none => exact ⟨rfl, rfl⟩
  | some e => rw [hd] at h; exact absurd rfl h
theorem dec_good {s : ByteArray} (h : decC s = 0) : decOpt s = some (decE s) := by
  unfold decC decE at *
  cases hd : decOpt s with
  | none => rw [hd] at h; exact absurd h (by decide)
  | some e => rfl
theorem valid_name {e : E} (h : validE e = true) : e.name.size ≤ 31 := by
  obtain ⟨i, hi, hk, hv⟩ := validE_ex h
  exact (nm_lim hi (valid_parts hi hk hv).1).2.2

set_option maxRecDepth 100000 in
theorem strict33_law (s : ByteArray) (w : World) (hg : Good w) :
    Calls Tryz.prog 15 #[.string s] w (RetV w (.bool true)) := by
  refine enter Tryz.func15 rfl Tryz.ntmps15 rfl ?_
  refine WC.seq ?_
  refine WC.region ?_
  refine WL.p rfl rfl rfl (P.assign rfl) ?_
  refine WL.nil_ ?_
  refine End.seq ?_
  refine WC.seq ?_
  refine WC.seq ?_
  refine WC.region ?_
  refine WL.callv (ent_of Tryz.func45 rfl rfl) rfl rfl rfl (fun w hs => awake33_any w (hg.st hs)) ?_
  refine WL.p rfl rfl rfl (P.not_ rfl) ?_
  refine WL.nil_ ?_
  refine End.seq ?_
  refine WC.condF rfl ?_
  refine WC.skip ?_
  refine End.seq ?_
  refine WC.seq ?_
  refine WC.seq ?_
  refine WC.region ?_
  refine WL.p rfl rfl rfl (P.move rfl) ?_
  refine WL.p rfl rfl rfl (P.lenS Tryz.underlying9 rfl) ?_
  refine WL.p rfl rfl rfl (P.cmp rfl rfl rfl) ?_
  refine WL.nil_ ?_
  refine End.seq ?_
  refine WC.cond rfl (fun hc11 => ?_) (fun hc11 => ?_)
  ·
    refine WC.seq ?_
    refine WC.region ?_
    refine WL.p rfl rfl rfl (P.assign rfl) ?_
    refine WL.nil_ ?_
    refine End.seq ?_
    refine WC.ret ?_
    refine End.thenR ?_
    refine End.ret1 rfl rfl ?_
    exact fun w' hs' => RetV.of rfl hs'
  ·
    refine WC.skip ?_
    refine End.seq ?_
    refine WC.seq ?_
    refine WC.region ?_
    refine WL.p rfl rfl rfl (P.move rfl) ?_
    refine WL.callx (ent_of Tryz.func56 rfl rfl) rfl rfl rfl (fun w hs => decodeU s w (hg.st hs) (by have := of_decide_eq_false hc11; omega)) (fun p hp => ?_)
    refine WL.p rfl rfl rfl (P.move rfl) ?_
    refine WL.p rfl rfl rfl (P.extract rfl rfl) ?_
    refine WL.p rfl rfl rfl (P.extract rfl rfl) ?_
    refine WL.alloc Tryz.zeroValue34 rfl rfl (fun b3 => ?_)
    refine WL.storeW 0 Tryz.sizeOf34 rfl rfl rfl (E.one _ hp.1.1 hp.1.2) rfl rfl rfl ?_
    refine WL.p rfl rfl rfl (P.assign rfl) ?_
    refine WL.nil_ ?_
    refine End.seq ?_
    refine WC.seq ?_
    refine WC.seq ?_
    refine WC.region ?_
    refine WL.p rfl rfl rfl (P.move rfl) ?_
    refine WL.p rfl rfl rfl (P.cmp rfl rfl rfl) ?_
    refine WL.nil_ ?_
    refine End.seq ?_
    refine WC.cond rfl (fun hc18 => ?_) (fun hc18 => ?_)
    ·
      obtain ⟨hb1, hb2⟩ := dec_bad (show decC s ≠ 0 by simpa using hc18)
      refine WC.seq ?_
      refine WC.region ?_
      refine WL.p rfl rfl rfl (P.move rfl) ?_
      refine WL.p rfl rfl rfl (P.cmp rfl rfl rfl) ?_
      refine WL.p rfl rfl rfl (P.move rfl) ?_
      refine WL.split 21 rfl (fun hs21 => ?_) (fun hs21 => ?_)
      ·
        refine WL.p rfl rfl rfl (P.loadW 0 Tryz.isAgg34 Tryz.sizeOf34 rfl rfl rfl) ?_
        refine WL.p rfl rfl rfl (P.build rfl (fun w => bo_34 Tryz.zeroValue34 (cs := #[_, _, _, _, _, _, _, _, _, _, _, _, _, _, _, _, _, _, _, _, _, _, _, _, _, _, _, _, _, _, _, _, _]) rfl rfl w)) ?_
        refine WL.callv (ent_of Tryz.func34 rfl rfl) rfl rfl rfl (fun w hs => same_any (decE s) E.zero p.1 p.2.1 vnil vnil w (hp.2 _ _ _ 1 hs rfl) (entNil rfl rfl)) ?_
        refine WL.p rfl rfl rfl (P.pickT rfl rfl) ?_
        refine WL.p rfl rfl rfl (P.assign rfl) ?_
        refine WL.nil_ ?_
        refine End.seq ?_
        refine WC.ret ?_
        refine End.thenR ?_
        refine End.ret1 rfl rfl ?_
        exact fun w' hs' => RetV.of (by rw [hb2, decide_eq_true rfl]) hs'
      ·
        exact absurd hs21 (by rw [hb1]; decide)
    ·
      obtain ⟨hv, hrec⟩ := dec_yes (dec_good (show decC s = 0 by simpa using hc18))
      refine WC.skip ?_
      refine End.seq ?_
      refine WC.seq ?_
      refine WC.region ?_
      refine WL.p rfl rfl rfl (P.loadW 0 Tryz.isAgg34 Tryz.sizeOf34 rfl rfl rfl) ?_
      refine WL.callv (ent_of Tryz.func54 rfl rfl) rfl rfl rfl (fun w hs => by have := encV p.1 p.2.1 w (hg.st hs) (hp.2 _ _ _ 1 hs rfl) (by have := valid_name hv; omega) hv; rw [hrec] at this; exact this) ?_
      refine WL.p rfl rfl rfl (P.move rfl) ?_
      refine WL.p rfl rfl rfl (P.extract rfl rfl) ?_
      refine WL.p rfl rfl rfl (P.extract rfl rfl) ?_
      refine WL.p rfl rfl rfl (P.assign rfl) ?_
      refine WL.p rfl rfl rfl (P.assign rfl) ?_
      refine WL.nil_ ?_
      refine End.seq ?_
      refine WC.seq ?_
      refine WC.region ?_
      refine WL.p rfl rfl rfl (P.move rfl) ?_
      refine WL.p rfl rfl rfl (P.cmp rfl rfl rfl) ?_
      refine WL.p rfl rfl rfl (P.move rfl) ?_
      refine WL.p rfl rfl rfl (P.move rfl) ?_
      refine WL.p rfl rfl rfl (P.move rfl) ?_
      refine WL.p rfl rfl rfl (P.cmps rfl rfl (cmpS_eq rfl)) ?_
      refine WL.p rfl rfl rfl (P.pickT rfl rfl) ?_
      refine WL.p rfl rfl rfl (P.move rfl) ?_
      refine WL.p rfl rfl rfl (P.loadW 0 Tryz.isAgg34 Tryz.sizeOf34 rfl rfl rfl) ?_
      refine WL.callv (ent_of Tryz.func47 rfl rfl) rfl rfl rfl (fun w hs => validV p.1 p.2.1 w (hg.st hs) (hp.2 _ _ _ 1 hs rfl) (by have := valid_name hv; omega) hv) ?_
      refine WL.p rfl rfl rfl (P.pickT rfl rfl) ?_
      refine WL.p rfl rfl rfl (P.assign rfl) ?_
      refine WL.nil_ ?_
      refine End.seq ?_
      refine WC.ret ?_
      refine End.ret1 rfl rfl ?_
      exact fun w' hs' => RetV.of rfl hs'

theorem recE_no {e : E} (h : validE e = false) : recE e = ⟨#[]⟩ := by unfold recE; rw [if_neg (by rw [h]; decide)]
theorem cut_two (s : ByteArray) (k : Nat) (h : k < s.size) : s.extract 0 k ++ s.extract k s.size = s ∧ s.extract k s.size ≠ bempty := by
  constructor
  · apply eq_of_data
    rw [data_append, extract_data, extract_data]
    have hl : s.data.toList.length = s.size := rfl
    rw [List.drop_zero, ← hl, List.take_length, List.take_append_drop]
  · intro h'
    have := congrArg ByteArray.size h'
    rw [ByteArray.size_extract] at this
    have h0 : bempty.size = 0 := rfl
    omega
theorem decNo {s : ByteArray} (w : World) (hg : Good w) (hsz : s.size < 4294967281) (hd : decOpt s = none) : Calls Tryz.prog 56 #[.string s] w (Ret w (DecS E.zero) (fun p => .tuple #[.agg (E.zero.cells p.1 p.2.1), .int .i64 11]) (fun p => [p.2.2])) := by
  have h := decodeU s w hg hsz
  have e1 : decE s = E.zero := by unfold decE; rw [hd]; rfl
  have e2 : decC s = 11 := by unfold decC; rw [hd]; rfl
  rw [e1, e2] at h
  exact h
theorem one_ne (m : Int) : strOfNums [m] ≠ bempty := fun h => by
  have := congrArg ByteArray.size h
  rw [strOfNums_size] at this
  cases this

set_option maxRecDepth 100000 in
theorem cuts33_law (e : E) (va vg : Value) (n m : Int) (w : World) (hg : Good w) (ha : EntAt w e va vg) (hb : Eb e) (hn : 0 ≤ n ∧ n < 256) (hm : 0 ≤ m ∧ m < 256) :
    Calls Tryz.prog 17 #[.agg (e.cells va vg), .int .u8 n, .int .u8 m] w (RetV w (.bool true)) := by
  have ha0 := ha
  obtain ⟨⟨A1, c1, rfl, hc1, hr1⟩, ⟨A2, c2, rfl, hc2, hr2⟩⟩ := ha
  refine enter Tryz.func17 rfl Tryz.ntmps17 rfl ?_
  refine WC.seq ?_
  refine WC.region ?_
  refine WL.box rfl rfl rfl (fun b3 => ?_)
  refine WL.p rfl rfl rfl (P.assign rfl) ?_
  refine WL.nil_ ?_
  refine End.seq ?_
  refine WC.seq ?_
  refine WC.seq ?_
  refine WC.region ?_
  refine WL.callv (ent_of Tryz.func45 rfl rfl) rfl rfl rfl (fun w hs => awake33_any w (hg.st hs)) ?_
  refine WL.p rfl rfl rfl (P.not_ rfl) ?_
  refine WL.nil_ ?_
  refine End.seq ?_
  refine WC.condF rfl ?_
  refine WC.skip ?_
  refine End.seq ?_
  refine WC.seq ?_
  refine WC.seq ?_
  refine WC.region ?_
  refine WL.p rfl rfl rfl (P.loadW 0 Tryz.isAgg34 Tryz.sizeOf34 rfl rfl rfl) ?_
  refine WL.callv (ent_of Tryz.func46 rfl rfl) rfl rfl rfl (fun w hs => few33_any e _ _ w (ha0.st hs) (by have := hb.owner; omega) (by have := hb.target; omega) (by have := hb.ds.volume; omega) (by have := hb.ds.owner; omega)) ?_
  refine WL.p rfl rfl rfl (P.not_ rfl) ?_
  refine WL.nil_ ?_
  refine End.seq ?_
  refine WC.cond rfl (fun hc17 => ?_) (fun hc17 => ?_)
  ·
    refine WC.seq ?_
    refine WC.region ?_
    refine WL.p rfl rfl rfl (P.assign rfl) ?_
    refine WL.nil_ ?_
    refine End.seq ?_
    refine WC.ret ?_
    refine End.thenR ?_
    refine End.ret1 rfl rfl ?_
    exact fun w' hs' => RetV.of rfl hs'
  ·
    have hf : few33 e = true := by simpa using hc17
    have hl := few_lim hf
    refine WC.skip ?_
    refine End.seq ?_
    refine WC.seq ?_
    refine WC.region ?_
    refine WL.p rfl rfl rfl (P.loadW 0 Tryz.isAgg34 Tryz.sizeOf34 rfl rfl rfl) ?_
    refine WL.callv (ent_of Tryz.func54 rfl rfl) rfl rfl rfl (fun w hs => encodeE_any e _ _ w (hg.st hs) (ha0.st hs) (by omega)) ?_
    refine WL.p rfl rfl rfl (P.move rfl) ?_
    refine WL.p rfl rfl rfl (P.extract rfl rfl) ?_
    refine WL.p rfl rfl rfl (P.extract rfl rfl) ?_
    refine WL.p rfl rfl rfl (P.assign rfl) ?_
    refine WL.p rfl rfl rfl (P.assign rfl) ?_
    refine WL.nil_ ?_
    refine End.seq ?_
    refine WC.seq ?_
    refine WC.seq ?_
    refine WC.region ?_
    refine WL.p rfl rfl rfl (P.move rfl) ?_
    refine WL.p rfl rfl rfl (P.cmp rfl rfl rfl) ?_
    refine WL.nil_ ?_
    refine End.seq ?_
    refine WC.cond rfl (fun hc24 => ?_) (fun hc24 => ?_)
    ·
      have hv : validE e = false := by cases hq : validE e with | false => rfl | true => rw [hq] at hc24; cases hc24
      refine WC.seq ?_
      refine WC.region ?_
      refine WL.p rfl rfl rfl (P.move rfl) ?_
      refine WL.p rfl rfl rfl (P.cmps rfl rfl rfl) ?_
      refine WL.p rfl rfl rfl (P.assign rfl) ?_
      refine WL.nil_ ?_
      refine End.seq ?_
      refine WC.ret ?_
      refine End.thenR ?_
      refine End.ret1 rfl rfl ?_
      exact fun w' hs' => RetV.of (by rw [recE_no hv]; simp) hs'
    ·
      have hv : validE e = true := by cases hq : validE e with | true => rfl | false => rw [hq] at hc24; cases hc24
      have hz := rec_lim hv
      have hk0 : 0 ≤ n % ((recE e).size : Int) := Int.emod_nonneg _ (by omega)
      have hk1 : n % ((recE e).size : Int) < (recE e).size := Int.emod_lt_of_pos _ (by omega)
      refine WC.skip ?_
      refine End.seq ?_
      refine WC.seq ?_
      refine WC.region ?_
      refine WL.p rfl rfl rfl (P.move rfl) ?_
      refine WL.p rfl rfl rfl (P.move rfl) ?_
      refine WL.p rfl rfl rfl (P.conv (by kernel_rfl) Tryz.underlying3 rfl (wrap_in (by omega))) ?_
      refine WL.p rfl rfl rfl (P.move rfl) ?_
      refine WL.p rfl rfl rfl (P.lenS Tryz.underlying9 rfl) ?_
      refine WL.p rfl rfl rfl (P.rem rfl rfl (by omega) (by omega)) ?_
      refine WL.p rfl rfl rfl (P.subH Tryz.underlying9 rfl rfl (by omega) (by omega)) ?_
      refine WL.callx (ent_of Tryz.func56 rfl rfl) rfl rfl rfl (fun w hs => decNo w (hg.st hs) (by have := ByteArray.size_extract (a := recE e) (b := 0) (e := (n % ((recE e).size : Int)).toNat); omega) (dec_shorter hv (cut_two _ _ (by omega)).1 (cut_two _ _ (by omega)).2)) (fun p hp => ?_)
      refine WL.p rfl rfl rfl (P.move rfl) ?_
      refine WL.p rfl rfl rfl (P.extract rfl rfl) ?_
      refine WL.p rfl rfl rfl (P.extract rfl rfl) ?_
      refine WL.alloc Tryz.zeroValue34 rfl rfl (fun b9 => ?_)
      refine WL.storeW 0 Tryz.sizeOf34 rfl rfl rfl (E.one _ hp.1.1 hp.1.2) rfl rfl rfl ?_
      refine WL.p rfl rfl rfl (P.assign rfl) ?_
      refine WL.nil_ ?_
      refine End.seq ?_
      refine WC.seq ?_
      refine WC.region ?_
      refine WL.p rfl rfl rfl (P.move rfl) ?_
      refine WL.p rfl rfl rfl (P.move rfl) ?_
      refine WL.row Tryz.underlying47 Tryz.sizeOf5 Tryz.zeroValue5 rfl rfl rfl rfl rfl rfl rfl rfl rfl (fun b41 => ?_)
      refine WL.p rfl rfl rfl (P.bytesOwn 0 (xs := [m]) Tryz.underlying47 Tryz.underlying5 Tryz.underlying9 rfl rfl rfl (fun i hi => by match i, hi with | 0, _ => rfl)) ?_
      refine WL.p rfl rfl rfl (P.cat rfl rfl (by rw [strOfNums_size]; simp; omega)) ?_
      refine WL.callx (ent_of Tryz.func56 rfl rfl) rfl rfl rfl (fun w hs => decNo w (hg.st hs) (by rw [size_append, strOfNums_size]; simp; omega) (dec_longer hv (one_ne m))) (fun p2 hp2 => ?_)
      refine WL.p rfl rfl rfl (P.move rfl) ?_
      refine WL.p rfl rfl rfl (P.extract rfl rfl) ?_
      refine WL.p rfl rfl rfl (P.extract rfl rfl) ?_
      refine WL.alloc Tryz.zeroValue34 rfl rfl (fun b11 => ?_)
      refine WL.storeW 0 Tryz.sizeOf34 rfl rfl rfl (E.one _ hp2.1.1 hp2.1.2) rfl rfl rfl ?_
      refine WL.p rfl rfl rfl (P.assign rfl) ?_
      refine WL.nil_ ?_
      refine End.seq ?_
      refine WC.seq ?_
      refine WC.region ?_
      refine WL.p rfl rfl rfl (P.move rfl) ?_
      refine WL.p rfl rfl rfl (P.cmp rfl rfl rfl) ?_
      refine WL.p rfl rfl rfl (P.move rfl) ?_
      refine WL.p rfl rfl rfl (P.move rfl) ?_
      refine WL.p rfl rfl rfl (P.cmp rfl rfl rfl) ?_
      refine WL.p rfl rfl rfl (P.pickT rfl rfl) ?_
      refine WL.p rfl rfl rfl (P.assign rfl) ?_
      refine WL.nil_ ?_
      refine End.seq ?_
      refine WC.ret ?_
      refine End.ret1 rfl rfl ?_
      exact fun w' hs' => RetV.of rfl hs'

end Go.Proofs.YtlkkiimmangplaaGreatDoor

/- The law on keys. -/
namespace Go.Proofs.YtlkkiimmangplaaGreatDoor
open Go.RowKit
set_option linter.unusedVariables false
set_option linter.unusedSimpArgs false

theorem pat_blank {s : ByteArray} (h : validB true s = true) : (32 : UInt8) ∉ s.data.toList ∧ 1 ≤ s.size ∧ s.size ≤ 31 := by
  unfold validB at h
  simp only [Bool.and_eq_true, decide_eq_true_eq] at h
  obtain ⟨h1, h2, h3⟩ := h
  refine ⟨fun hm => ?_, h1, h2⟩
  rcases sp_mem _ _ hm with h' | ⟨q, hq, hb⟩
  · exact absurd h' (by decide)
  · have hp := List.all_eq_true.1 h3 (mkB q) (by rw [spB]; exact List.mem_map.2 ⟨q, hq, rfl⟩)
    unfold partB at hp
    rw [Bool.or_eq_true] at hp
    rcases hp with hp | hp
    · rw [Bool.true_and, toList_beq, decide_eq_true_eq] at hp
      have e : q = [42, 42] := by
        have := congrArg (fun x : ByteArray => x.data.toList) hp
        simpa [mkB] using this
      rw [e] at hb
      exact absurd hb (by decide)
    · simp only [Bool.and_eq_true] at hp
      obtain ⟨k, hk⟩ := List.mem_iff_getElem?.1 hb
      have hlt : k < q.length := (List.getElem?_eq_some_iff.1 hk).1
      have ho := List.all_eq_true.1 hp.2.2.2 k (List.mem_range.2 (by rw [mkB_size]; exact hlt))
      have e : byteAt (mkB q).data.toList k = 32 := by
        show (((mkB q).data.toList[(k : Int).toNat]?.getD 0).toNat : Int) = 32
        rw [Int.toNat_natCast, show (mkB q).data.toList = q by simp [mkB], hk]; rfl
      have e1 : isUpper 32 = false := by decide
      have e2 : isDigit 32 = false := by decide
      unfold okAt at ho
      rw [e, e1, e2] at ho
      simp at ho
def padB (s : ByteArray) : ByteArray := s ++ blanks (31 - s.size)
theorem blanks_int (s : ByteArray) (w : World) (h : s.size ≤ 31) : Calls Tryz.prog 61 #[.string ⟨#[32]⟩, .int .i64 (31 - (s.size : Int))] w (RetV w (.string (blanks (31 - s.size)))) := by
  have e : (31 : Int) - (s.size : Int) = ((31 - s.size : Nat) : Int) := by omega
  rw [e]
  exact blanks_any _ w (by omega)
theorem bytesLess_cons (c : UInt8) (a b : List UInt8) : Op.bytesLess (c :: a) (c :: b) = Op.bytesLess a b := by
  rw [Op.bytesLess]
  simp
theorem keyE_data {k : Int} {s : ByteArray} (hk : 0 ≤ k ∧ k ≤ 4) (h : s.size ≤ 31) : (keyE k s).data.toList = by8 (kindAt k).L :: (padB s).data.toList := by
  rw [keyE_kind (i := k.toNat) (by omega) (by omega), key_data h, padB, data_append, blanks_data]; rfl
theorem keyE_size {k : Int} {s : ByteArray} (hk : 0 ≤ k ∧ k ≤ 4) (h : s.size ≤ 31) : (keyE k s).size = 32 := by
  rw [keyE_kind (i := k.toNat) (by omega) (by omega), key_size32 h]
theorem keyE_tail {k : Int} {s : ByteArray} (hk : 0 ≤ k ∧ k ≤ 4) (h : s.size ≤ 31) : (keyE k s).extract 1 (keyE k s).size = padB s := by
  apply eq_of_data
  have hl : (keyE k s).data.toList.length = (keyE k s).size := rfl
  rw [extract_data, ← hl, List.take_length, keyE_data hk h]; rfl
theorem padB_inj {a b : ByteArray} (ha : (32 : UInt8) ∉ a.data.toList) (hb : (32 : UInt8) ∉ b.data.toList) (h : padB a = padB b) : a = b := by
  have := congrArg trimR h
  rwa [padB, padB, trim_name _ ha, trim_name _ hb] at this
theorem keyE_same {k : Int} {a b : ByteArray} (hk : 0 ≤ k ∧ k ≤ 4) (ha : (32 : UInt8) ∉ a.data.toList ∧ 1 ≤ a.size ∧ a.size ≤ 31) (hb : (32 : UInt8) ∉ b.data.toList ∧ 1 ≤ b.size ∧ b.size ≤ 31) : ((keyE k a).toList == (keyE k b).toList) = (a.toList == b.toList) := by
  rw [toList_beq, toList_beq, decide_eq_decide]
  constructor
  · intro h
    have h1 := keyE_tail hk ha.2.2
    rw [h, keyE_tail hk hb.2.2] at h1
    exact (padB_inj hb.1 ha.1 h1).symm
  · rintro rfl; rfl
theorem keyE_kinds {k l : Int} {a : ByteArray} (hk : 0 ≤ k ∧ k ≤ 4) (hl : 0 ≤ l ∧ l ≤ 4) (ha : a.size ≤ 31) : ((keyE k a).toList == (keyE l a).toList) = (k == l) := by
  rw [toList_beq, Bool.eq_iff_iff, decide_eq_true_eq, beq_iff_eq]
  constructor
  · intro h
    have h1 := letter_of (i := k.toNat) (t := bempty) (by omega) ha
    have h2 := letter_of (i := l.toNat) (t := bempty) (by omega) ha
    rw [app_emp, ← keyE_kind (k := k) (by omega) (by omega)] at h1
    rw [app_emp, ← keyE_kind (k := l) (by omega) (by omega), ← h, h1] at h2
    have := letters_inj (by omega) (by omega) h2
    omega
  · rintro rfl; rfl
theorem keyE_less {k : Int} {a b : ByteArray} (hk : 0 ≤ k ∧ k ≤ 4) (ha : a.size ≤ 31) (hb : b.size ≤ 31) : Op.bytesLess (keyE k a).toList (keyE k b).toList = Op.bytesLess (padB a).toList (padB b).toList := by
  rw [ByteArray.toList_eq, ByteArray.toList_eq, ByteArray.toList_eq, ByteArray.toList_eq, keyE_data hk ha, keyE_data hk hb, bytesLess_cons]

set_option maxRecDepth 100000 in
theorem pad33_any (s : ByteArray) (w : World) (h : s.size ≤ 31) :
    Calls Tryz.prog 60 #[.string s] w (RetV w (.string (padB s))) := by
  refine enter Tryz.func60 rfl Tryz.ntmps60 rfl ?_
  refine WC.seq ?_
  refine WC.region ?_
  refine WL.p rfl rfl rfl (P.assign rfl) ?_
  refine WL.nil_ ?_
  refine End.seq ?_
  refine WC.seq ?_
  refine WC.region ?_
  refine WL.p rfl rfl rfl (P.move rfl) ?_
  refine WL.p rfl rfl rfl (P.move rfl) ?_
  refine WL.p rfl rfl rfl (P.lenS Tryz.underlying9 rfl) ?_
  refine WL.p rfl rfl rfl (P.ari64 rfl rfl rfl (by omega)) ?_
  refine WL.callv (ent_of Tryz.func61 rfl rfl) rfl rfl rfl (fun w hs => blanks_int s w h) ?_
  refine WL.p rfl rfl rfl (P.cat rfl rfl (by rw [blanks_size]; omega)) ?_
  refine WL.p rfl rfl rfl (P.assign rfl) ?_
  refine WL.nil_ ?_
  refine End.seq ?_
  refine WC.ret ?_
  refine End.ret1 rfl rfl ?_
  exact fun w' hs' => RetV.of rfl hs'

set_option maxRecDepth 100000 in
theorem keys33_law (kind other : Int) (a b : ByteArray) (w : World) (hg : Good w) :
    Calls Tryz.prog 16 #[.int .i64 kind, .int .i64 other, .string a, .string b] w (RetV w (.bool true)) := by
  refine enter Tryz.func16 rfl Tryz.ntmps16 rfl ?_
  refine WC.seq ?_
  refine WC.region ?_
  refine WL.p rfl rfl rfl (P.assign rfl) ?_
  refine WL.nil_ ?_
  refine End.seq ?_
  refine WC.seq ?_
  refine WC.seq ?_
  refine WC.region ?_
  refine WL.callv (ent_of Tryz.func45 rfl rfl) rfl rfl rfl (fun w hs => awake33_any w (hg.st hs)) ?_
  refine WL.p rfl rfl rfl (P.not_ rfl) ?_
  refine WL.nil_ ?_
  refine End.seq ?_
  refine WC.condF rfl ?_
  refine WC.skip ?_
  refine End.seq ?_
  refine WC.seq ?_
  refine WC.seq ?_
  refine WC.region ?_
  refine WL.p rfl rfl rfl (P.move rfl) ?_
  refine WL.p rfl rfl rfl (P.cmp rfl rfl rfl) ?_
  refine WL.p rfl rfl rfl (P.move rfl) ?_
  refine WL.split 17 rfl (fun hs17 => ?_) (fun hs17 => ?_)
  ·
    refine WL.off rfl rfl ?_
    refine WL.off rfl rfl ?_
    refine WL.p rfl rfl rfl (P.pickT rfl rfl) ?_
    refine WL.p rfl rfl rfl (P.move rfl) ?_
    refine WL.off rfl rfl ?_
    refine WL.off rfl rfl ?_
    refine WL.p rfl rfl rfl (P.pickT rfl rfl) ?_
    refine WL.p rfl rfl rfl (P.move rfl) ?_
    refine WL.off rfl rfl ?_
    refine WL.off rfl rfl ?_
    refine WL.p rfl rfl rfl (P.pickT rfl rfl) ?_
    refine WL.p rfl rfl rfl (P.move rfl) ?_
    refine WL.off rfl rfl ?_
    refine WL.off rfl rfl ?_
    refine WL.off rfl rfl ?_
    refine WL.p rfl rfl rfl (P.pickT rfl rfl) ?_
    refine WL.p rfl rfl rfl (P.move rfl) ?_
    refine WL.off rfl rfl ?_
    refine WL.off rfl rfl ?_
    refine WL.off rfl rfl ?_
    refine WL.p rfl rfl rfl (P.pickT rfl rfl) ?_
    refine WL.nil_ ?_
    refine End.seq ?_
    refine WC.condT rfl ?_
    refine WC.seq ?_
    refine WC.region ?_
    refine WL.p rfl rfl rfl (P.assign rfl) ?_
    refine WL.nil_ ?_
    refine End.seq ?_
    refine WC.ret ?_
    refine End.thenR ?_
    refine End.ret1 rfl rfl ?_
    exact fun w' hs' => RetV.of rfl hs'
  ·
    refine WL.p rfl rfl rfl (P.move rfl) ?_
    refine WL.p rfl rfl rfl (P.cmp rfl rfl rfl) ?_
    refine WL.p rfl rfl rfl (P.pickF rfl rfl) ?_
    refine WL.p rfl rfl rfl (P.move rfl) ?_
    refine WL.split 21 rfl (fun hs21 => ?_) (fun hs21 => ?_)
    ·
      refine WL.off rfl rfl ?_
      refine WL.off rfl rfl ?_
      refine WL.p rfl rfl rfl (P.pickT rfl rfl) ?_
      refine WL.p rfl rfl rfl (P.move rfl) ?_
      refine WL.off rfl rfl ?_
      refine WL.off rfl rfl ?_
      refine WL.p rfl rfl rfl (P.pickT rfl rfl) ?_
      refine WL.p rfl rfl rfl (P.move rfl) ?_
      refine WL.off rfl rfl ?_
      refine WL.off rfl rfl ?_
      refine WL.off rfl rfl ?_
      refine WL.p rfl rfl rfl (P.pickT rfl rfl) ?_
      refine WL.p rfl rfl rfl (P.move rfl) ?_
      refine WL.off rfl rfl ?_
      refine WL.off rfl rfl ?_
      refine WL.off rfl rfl ?_
      refine WL.p rfl rfl rfl (P.pickT rfl rfl) ?_
      refine WL.nil_ ?_
      refine End.seq ?_
      refine WC.condT rfl ?_
      refine WC.seq ?_
      refine WC.region ?_
      refine WL.p rfl rfl rfl (P.assign rfl) ?_
      refine WL.nil_ ?_
      refine End.seq ?_
      refine WC.ret ?_
      refine End.thenR ?_
      refine End.ret1 rfl rfl ?_
      exact fun w' hs' => RetV.of rfl hs'
    ·
      refine WL.p rfl rfl rfl (P.move rfl) ?_
      refine WL.p rfl rfl rfl (P.cmp rfl rfl rfl) ?_
      refine WL.p rfl rfl rfl (P.pickF rfl rfl) ?_
      refine WL.p rfl rfl rfl (P.move rfl) ?_
      refine WL.split 25 rfl (fun hs25 => ?_) (fun hs25 => ?_)
      ·
        refine WL.off rfl rfl ?_
        refine WL.off rfl rfl ?_
        refine WL.p rfl rfl rfl (P.pickT rfl rfl) ?_
        refine WL.p rfl rfl rfl (P.move rfl) ?_
        refine WL.off rfl rfl ?_
        refine WL.off rfl rfl ?_
        refine WL.off rfl rfl ?_
        refine WL.p rfl rfl rfl (P.pickT rfl rfl) ?_
        refine WL.p rfl rfl rfl (P.move rfl) ?_
        refine WL.off rfl rfl ?_
        refine WL.off rfl rfl ?_
        refine WL.off rfl rfl ?_
        refine WL.p rfl rfl rfl (P.pickT rfl rfl) ?_
        refine WL.nil_ ?_
        refine End.seq ?_
        refine WC.condT rfl ?_
        refine WC.seq ?_
        refine WC.region ?_
        refine WL.p rfl rfl rfl (P.assign rfl) ?_
        refine WL.nil_ ?_
        refine End.seq ?_
        refine WC.ret ?_
        refine End.thenR ?_
        refine End.ret1 rfl rfl ?_
        exact fun w' hs' => RetV.of rfl hs'
      ·
        refine WL.p rfl rfl rfl (P.move rfl) ?_
        refine WL.p rfl rfl rfl (P.cmp rfl rfl rfl) ?_
        refine WL.p rfl rfl rfl (P.pickF rfl rfl) ?_
        refine WL.p rfl rfl rfl (P.move rfl) ?_
        refine WL.split 29 rfl (fun hs29 => ?_) (fun hs29 => ?_)
        ·
          refine WL.off rfl rfl ?_
          refine WL.off rfl rfl ?_
          refine WL.off rfl rfl ?_
          refine WL.p rfl rfl rfl (P.pickT rfl rfl) ?_
          refine WL.p rfl rfl rfl (P.move rfl) ?_
          refine WL.off rfl rfl ?_
          refine WL.off rfl rfl ?_
          refine WL.off rfl rfl ?_
          refine WL.p rfl rfl rfl (P.pickT rfl rfl) ?_
          refine WL.nil_ ?_
          refine End.seq ?_
          refine WC.condT rfl ?_
          refine WC.seq ?_
          refine WC.region ?_
          refine WL.p rfl rfl rfl (P.assign rfl) ?_
          refine WL.nil_ ?_
          refine End.seq ?_
          refine WC.ret ?_
          refine End.thenR ?_
          refine End.ret1 rfl rfl ?_
          exact fun w' hs' => RetV.of rfl hs'
        ·
          refine WL.p rfl rfl rfl (P.move rfl) ?_
          refine WL.callv (ent_of Tryz.func59 rfl rfl) rfl rfl rfl (fun w hs => refValidPattern_any a w) ?_
          refine WL.p rfl rfl rfl (P.not_ rfl) ?_
          refine WL.p rfl rfl rfl (P.pickF rfl rfl) ?_
          refine WL.p rfl rfl rfl (P.move rfl) ?_
          refine WL.split 34 rfl (fun hs34 => ?_) (fun hs34 => ?_)
          ·
            refine WL.off rfl rfl ?_
            refine WL.off rfl rfl ?_
            refine WL.off rfl rfl ?_
            refine WL.p rfl rfl rfl (P.pickT rfl rfl) ?_
            refine WL.nil_ ?_
            refine End.seq ?_
            refine WC.condT rfl ?_
            refine WC.seq ?_
            refine WC.region ?_
            refine WL.p rfl rfl rfl (P.assign rfl) ?_
            refine WL.nil_ ?_
            refine End.seq ?_
            refine WC.ret ?_
            refine End.thenR ?_
            refine End.ret1 rfl rfl ?_
            exact fun w' hs' => RetV.of rfl hs'
          ·
            refine WL.p rfl rfl rfl (P.move rfl) ?_
            refine WL.callv (ent_of Tryz.func59 rfl rfl) rfl rfl rfl (fun w hs => refValidPattern_any b w) ?_
            refine WL.p rfl rfl rfl (P.not_ rfl) ?_
            refine WL.p rfl rfl rfl (P.pickF rfl rfl) ?_
            refine WL.nil_ ?_
            refine End.seq ?_
            refine WC.cond rfl (fun hc38 => ?_) (fun hc38 => ?_)
            ·
              refine WC.seq ?_
              refine WC.region ?_
              refine WL.p rfl rfl rfl (P.assign rfl) ?_
              refine WL.nil_ ?_
              refine End.seq ?_
              refine WC.ret ?_
              refine End.thenR ?_
              refine End.ret1 rfl rfl ?_
              exact fun w' hs' => RetV.of rfl hs'
            ·
              have h1 : 0 ≤ kind ∧ kind ≤ 4 := by have := of_decide_eq_false hs17; have := of_decide_eq_false hs21; omega
              have h2 : 0 ≤ other ∧ other ≤ 4 := by have := of_decide_eq_false hs25; have := of_decide_eq_false hs29; omega
              have ha := pat_blank (show validB true a = true by simpa using hs34)
              have hb := pat_blank (show validB true b = true by simpa using hc38)
              refine WC.skip ?_
              refine End.seq ?_
              refine WC.seq ?_
              refine WC.region ?_
              refine WL.p rfl rfl rfl (P.assign rfl) ?_
              refine WL.nil_ ?_
              refine End.seq ?_
              refine WC.seq ?_
              refine WC.region ?_
              refine WL.p rfl rfl rfl (P.move rfl) ?_
              refine WL.p rfl rfl rfl (P.move rfl) ?_
              refine WL.callv (ent_of Tryz.func49 rfl rfl) rfl rfl rfl (fun w hs => keyE_any kind a w (by omega)) ?_
              refine WL.p rfl rfl rfl (P.move rfl) ?_
              refine WL.p rfl rfl rfl (P.move rfl) ?_
              refine WL.callv (ent_of Tryz.func49 rfl rfl) rfl rfl rfl (fun w hs => keyE_any kind b w (by omega)) ?_
              refine WL.p rfl rfl rfl (P.move rfl) ?_
              refine WL.p rfl rfl rfl (P.move rfl) ?_
              refine WL.callv (ent_of Tryz.func49 rfl rfl) rfl rfl rfl (fun w hs => keyE_any other a w (by omega)) ?_
              refine WL.p rfl rfl rfl (P.assign rfl) ?_
              refine WL.p rfl rfl rfl (P.assign rfl) ?_
              refine WL.p rfl rfl rfl (P.assign rfl) ?_
              refine WL.nil_ ?_
              refine End.seq ?_
              refine WC.seq ?_
              refine WC.quiet (by kernel_rfl) ?_
              refine WQ.p rfl rfl rfl (P.move rfl) ?_
              refine WQ.p rfl rfl rfl (P.lenS Tryz.underlying9 rfl) ?_
              refine WQ.p rfl rfl rfl (P.cmp rfl rfl rfl) ?_
              refine WQ.p rfl rfl rfl (P.move rfl) ?_
              refine WQ.split 51 rfl (fun hs51 => ?_) (fun hs51 => ?_)
              ·
                refine WQ.p rfl rfl rfl (P.move rfl) ?_
                refine WQ.p rfl rfl rfl (P.subL Tryz.underlying9 rfl rfl (by decide) (by rw [keyE_size h1 ha.2.2]; decide)) ?_
                refine WQ.p rfl rfl rfl (P.move rfl) ?_
                refine WQ.p rfl rfl rfl (P.move rfl) ?_
                refine WQ.callc (ent_of Tryz.func60 rfl rfl) rfl rfl rfl rfl (fun w hs => pad33_any a w ha.2.2) ?_
                refine WQ.p rfl rfl rfl (P.cmps rfl rfl rfl) ?_
                refine WQ.p rfl rfl rfl (P.pickT rfl rfl) ?_
                refine WQ.p rfl rfl rfl (P.move rfl) ?_
                refine WQ.split 59 rfl (fun hs59 => ?_) (fun hs59 => ?_)
                ·
                  refine WQ.p rfl rfl rfl (P.move rfl) ?_
                  refine WQ.p rfl rfl rfl (P.move rfl) ?_
                  refine WQ.p rfl rfl rfl (P.cmps rfl rfl rfl) ?_
                  refine WQ.p rfl rfl rfl (P.move rfl) ?_
                  refine WQ.p rfl rfl rfl (P.move rfl) ?_
                  refine WQ.p rfl rfl rfl (P.cmps rfl rfl rfl) ?_
                  refine WQ.p rfl rfl rfl (P.eqB Tryz.underlying4 rfl rfl) ?_
                  refine WQ.p rfl rfl rfl (P.pickT rfl rfl) ?_
                  refine WQ.p rfl rfl rfl (P.move rfl) ?_
                  refine WQ.split 68 rfl (fun hs68 => ?_) (fun hs68 => ?_)
                  ·
                    refine WQ.p rfl rfl rfl (P.move rfl) ?_
                    refine WQ.p rfl rfl rfl (P.move rfl) ?_
                    refine WQ.p rfl rfl rfl (P.cmps rfl rfl rfl) ?_
                    refine WQ.p rfl rfl rfl (P.move rfl) ?_
                    refine WQ.p rfl rfl rfl (P.move rfl) ?_
                    refine WQ.p rfl rfl rfl (P.cmp rfl rfl rfl) ?_
                    refine WQ.p rfl rfl rfl (P.eqB Tryz.underlying4 rfl rfl) ?_
                    refine WQ.p rfl rfl rfl (P.pickT rfl rfl) ?_
                    refine WQ.p rfl rfl rfl (P.move rfl) ?_
                    refine WQ.split 77 rfl (fun hs77 => ?_) (fun hs77 => ?_)
                    ·
                      refine WQ.p rfl rfl rfl (P.move rfl) ?_
                      refine WQ.p rfl rfl rfl (P.move rfl) ?_
                      refine WQ.p rfl rfl rfl (P.cmps rfl rfl rfl) ?_
                      refine WQ.p rfl rfl rfl (P.move rfl) ?_
                      refine WQ.p rfl rfl rfl (P.move rfl) ?_
                      refine WQ.callc (ent_of Tryz.func60 rfl rfl) rfl rfl rfl rfl (fun w hs => pad33_any a w ha.2.2) ?_
                      refine WQ.p rfl rfl rfl (P.move rfl) ?_
                      refine WQ.p rfl rfl rfl (P.move rfl) ?_
                      refine WQ.callc (ent_of Tryz.func60 rfl rfl) rfl rfl rfl rfl (fun w hs => pad33_any b w hb.2.2) ?_
                      refine WQ.p rfl rfl rfl (P.cmps rfl rfl rfl) ?_
                      refine WQ.p rfl rfl rfl (P.eqB Tryz.underlying4 rfl rfl) ?_
                      refine WQ.p rfl rfl rfl (P.pickT rfl rfl) ?_
                      refine WQ.p rfl rfl rfl (P.assign rfl) ?_
                      refine WQ.nil_ ?_
                      refine End.seq ?_
                      refine WC.ret ?_
                      refine End.ret1 rfl rfl ?_
                      exact fun w' hs' => RetV.of (by rw [keyE_less h1 ha.2.2 hb.2.2]; simp) hs'
                    ·
                      exact absurd hs77 (by rw [keyE_kinds h1 h2 ha.2.2]; simp)
                  ·
                    exact absurd hs68 (by rw [keyE_same h1 ha hb]; simp)
                ·
                  exact absurd hs59 (by rw [show (keyE kind a).extract (1 : Int).toNat (keyE kind a).size = padB a from keyE_tail h1 ha.2.2]; simp)
              ·
                exact absurd hs51 (by rw [keyE_size h1 ha.2.2]; decide)

end Go.Proofs.YtlkkiimmangplaaGreatDoor

/- The library's table of decimal powers, out of the rows' laid variables. -/
namespace Go.Proofs.YtlkkiimmangplaaGreatDoor
open Go.RowKit
set_option linter.unusedVariables false
abbrev laidL : List (String × DataW Unit) := [("math/bits.deBruijn32tab", Rows.laid_math_bits_deBruijn32tab), ("math/bits.deBruijn64tab", Rows.laid_math_bits_deBruijn64tab), ("internal/strconv.uint64pow10", Rows.laid_internal_strconv_uint64pow10), ("unicode/utf8.acceptRanges", Rows.laid_unicode_utf8_acceptRanges), ("unicode/utf8.first", Rows.laid_unicode_utf8_first)]
theorem pow10_at : Tryz.prog.globalNamed "internal/strconv.uint64pow10" = some 1 := by kernel_rfl
theorem pow10_type : (Tryz.prog.globals[1]?).map (·.type) = some 323 := by kernel_rfl
theorem pow10_u : Tryz.prog.underlying 323 = some (.array 20 255) := by kernel_rfl
theorem pow10_e : Tryz.prog.underlying 255 = some (.int .u64) := by kernel_rfl
theorem tab_of_laid {W : World} (h : laidMetH Tryz.prog laidL W) : Lib.TabBelow Tryz.prog W.heap.size W "internal/strconv.uint64pow10" .u64 Lib.pow10Tab := by
  rw [MakeChecks.laidMetH_plain _ _ _ (by kernel_rfl)] at h
  refine Lib.tabBelow_of_tabIs ?_
  obtain ⟨ps, ⟨_, _, _, _, _, _, _, _, _, _, ⟨_, _, _, _, _, _, _, _, _, _, ⟨g, t, cs, fuel, p, q, hg, ht, hvar, hd, _, _⟩, _⟩, _⟩, _⟩ := h
  obtain rfl := Option.some.inj (pow10_at.symm.trans hg)
  obtain rfl := Option.some.inj (pow10_type.symm.trans ht)
  unfold Lib.TabIs
  have hd2 : DataW.trod (fun _ => ()) Tryz.prog W 0 (fun _ => true) false fuel 323 cs.toList = some (Lib.tabData .u64 Lib.pow10Tab, p) := hd
  rw [hvar, ← Lib.cells_of_tab pow10_u pow10_e (by kernel_rfl) (by kernel_rfl) hd2]
theorem good_of {W : World} (hsh : W.ShapedOpen Tryz.prog) (h : laidMetH Tryz.prog laidL W) : Good W := ⟨hsh, tab_of_laid h⟩
end Go.Proofs.YtlkkiimmangplaaGreatDoor

/- The closed facts of the program that all rows ask. -/
namespace Go.Proofs.YtlkkiimmangplaaGreatDoor
open Go
set_option linter.unusedVariables false
set_option linter.unusedSimpArgs false

open Go.ChangeShapes Go.WideShapes
set_option maxRecDepth 100000

theorem words_of {l : List (List Char)} {h s c : List Char} (hl : l.take 3 = [h, s, c]) : ∃ r, l = h :: s :: c :: r := by
  match l, hl with
  | a :: b :: d :: r, hl =>
    simp only [List.take_succ_cons, List.take_zero, List.cons.injEq, and_true] at hl
    obtain ⟨rfl, rfl, rfl⟩ := hl
    exact ⟨r, rfl⟩
  | [], hl => cases hl
  | [_], hl => cases hl
  | [_, _], hl => cases hl
theorem behind_of {l : List (List Char)} {h s c : List Char} (hl : l.take 3 = [h, s, c]) (hs : ((h == "harness".toList || h == "ownmain".toList) && isSumSigns s) = true) : ∃ r, behindMainWord l = c :: r := by
  obtain ⟨r, rfl⟩ := words_of hl
  refine ⟨r, ?_⟩
  simp only [behindMainWord]
  rw [if_pos hs]
theorem main_of {P : Program} {s c : List Char} {h : List Char} (hl : (wordsSigns P.initOrder.toList).take 3 = [h, s, c]) (hs : isSumSigns s = true) (hh : (h == "harness".toList) = true) : P.mainIs = some (true, s) := by
  obtain ⟨r, hr⟩ := words_of hl
  unfold Program.mainIs
  rw [hr]
  simp only [hs, hh]
  rfl
theorem may_of {P : Program} {r : List (List Char)} {c : List Char} (h : behindMainWord (wordsSigns P.initOrder.toList) = c :: r) (hs : stripLifts liftWords (c :: r) = ([], c :: r)) (hc : (some c == some "cut".toList) = true) (h1 : P.laysLater = false) (h2 : P.bearsReflect = false) (h3 : P.doorFits [] = true) : P.mayEnter = true := by
  unfold Program.mayEnter
  rw [h]
  simp only [hs, h1, h2, h3, List.head?_cons, hc]
  simp
theorem head_of {P : Program} {r : List (List Char)} {c : List Char} (h : behindMainWord (wordsSigns P.initOrder.toList) = c :: r) (hs : stripLifts liftWords (c :: r) = ([], c :: r)) : P.headLifts = [] := by
  unfold Program.headLifts
  rw [h]
  simp only [hs]
  simp
theorem final_of {P : Program} {r : List (List Char)} {c : List Char} (h : behindMainWord (wordsSigns P.initOrder.toList) = c :: r) (hh : P.headLifts = []) (hc : (some c == some "carried".toList) = false) : P.liftsFinal = false := by
  unfold Program.liftsFinal
  rw [h, hh]
  simp only [List.head?_cons, hc]
  simp
theorem make_of {P : Program} {r : List (List Char)} {c : List Char} (h : behindMainWord (wordsSigns P.initOrder.toList) = c :: r) (h1 : (c == "gc".toList) = false) (h2 : (c == "spec".toList) = false) (h3 : (c == "cut".toList) = true) : P.make = some .cut := by
  unfold Program.make
  rw [h]
  simp only [h1, h2, h3]
  rfl
theorem strip_cut (r : List (List Char)) : stripLifts liftWords ("cut".toList :: r) = ([], "cut".toList :: r) := by rfl
theorem jw3 : (wordsSigns Tryz.prog.initOrder.toList).take 3 = ["harness".toList, "1f55a028107fcf6cc6d30742e76c2172639d12f8ca8a28f69385b22ba6fbaccc".toList, "cut".toList] := by kernel_rfl
theorem jlays : Tryz.prog.laysLater = false := by kernel_rfl
theorem jrefl : Tryz.prog.bearsReflect = false := by kernel_rfl
theorem jdoor : Tryz.prog.doorFits [] = true := by kernel_rfl
theorem jsum : (("harness".toList == "harness".toList || "harness".toList == "ownmain".toList) && isSumSigns "1f55a028107fcf6cc6d30742e76c2172639d12f8ca8a28f69385b22ba6fbaccc".toList) = true := by kernel_rfl
theorem jsum1 : isSumSigns "1f55a028107fcf6cc6d30742e76c2172639d12f8ca8a28f69385b22ba6fbaccc".toList = true := by kernel_rfl
theorem jb : ∃ r, behindMainWord (wordsSigns Tryz.prog.initOrder.toList) = "cut".toList :: r := behind_of jw3 jsum
theorem jmain : Tryz.prog.mainIs = some (true, "1f55a028107fcf6cc6d30742e76c2172639d12f8ca8a28f69385b22ba6fbaccc".toList) := main_of jw3 jsum1 (by kernel_rfl)
theorem jf_25 : Tryz.prog.mayEnter = true := by
  obtain ⟨r, hr⟩ := jb
  exact may_of hr (strip_cut r) (by kernel_rfl) jlays jrefl jdoor
theorem jheadLifts : Tryz.prog.headLifts = [] := by
  obtain ⟨r, hr⟩ := jb
  exact head_of hr (strip_cut r)
theorem jf_26 : ((Rows.generationNumbersRow.lifted == Tryz.prog.liftsFinal)) = true := by
  obtain ⟨r, hr⟩ := jb
  rw [final_of hr jheadLifts (by kernel_rfl)]; rfl
theorem jf_27 : ((Tryz.prog.make == some Rows.generationNumbersRow.make)) = true := by
  obtain ⟨r, hr⟩ := jb
  rw [make_of hr (by kernel_rfl) (by kernel_rfl) (by kernel_rfl)]; rfl
theorem jlooks : false = Tryz.prog.looks [] := by kernel_rfl

theorem jf_1 : (laidOutB Tryz.prog) = true := by kernel_rfl

theorem jf_2 : (mapsRowed Tryz.prog) = true := by kernel_rfl

theorem jf_6 : ((Tryz.prog.stops == [])) = true := by kernel_rfl

theorem jf_8 : ((Tryz.prog.stopKnobs == [])) = true := by kernel_rfl

theorem jf_22 : ((Rows.generationNumbersRow.plainKeys == Tryz.prog.plainKeys)) = true := by kernel_rfl

theorem jf_24 : (Tryz.prog.stopsHeard) = true := by kernel_rfl

end Go.Proofs.YtlkkiimmangplaaGreatDoor
