/-
From a call's run to a row, and what is known of landaulaw22.known.
-/
import Derived.Test.YtcaaikdcbmncmaaGreatDoorBase
import Derived.Test.YtcaaikdcbmncmaaGreatDoorCards
import Derived.Test.YtcaaikdcbmncmaaGreatDoorTie
import Derived.WalkKit
import Derived.ProofKit
import Derived.OpenShut
import Derived.Lay
import Derived.SevenTiedAt
import Derived.Stop.Joined
import Derived.HandedShaped
import Derived.Test.YtcaaikdcbmncmaaGreatDoorKnown
open Go LA Go.Proofs
namespace K
open Go.RowKit

theorem wrap_wf {k : IntKind} {a : Int} (h : (Lit.int k a).wf = true) : k.wrap a = a := by
  have h := (Bool.and_eq_true _ _).mp h
  have h1 := of_decide_eq_true h.1
  have h2 := of_decide_eq_true h.2
  exact wrap_mid (lo := k.min) (hi := k.max) (by cases k <;> rfl) (by cases k <;> rfl) h1 h2
theorem u8_bounds {a : Int} (h : (Lit.int .u8 a).wf = true) : 0 ≤ a ∧ a ≤ 255 := by
  have h := (Bool.and_eq_true _ _).mp h
  exact ⟨of_decide_eq_true h.1, of_decide_eq_true h.2⟩
theorem u8_ab {a : Int} (h : (Lit.int .u8 a).wf = true) (m : Nat) : VR noMu (.ab .u8 0 255 m (a.toNat % m)) (.int .u8 a) :=
  .ab .u8 a 0 255 m _ (u8_bounds h).1 (u8_bounds h).2 rfl (wrap_wf h)

section
variable {H : Type} {enc : TypeId × Value → H}
/-- the wrap of a row that lists variables, the world's shape kept -/
theorem wrap_row {a : Assume} {C : Checked} {os : Os} {f : FuncId} {fn : Func} {s : ChangeSpec} {conds : List PathCond} {apart fresh handsOn again : Bool} {X : World → Array Value → Prop}
    (hX : ∀ (w w' : World) (args : Array Value), w.heap = w'.heap → X w args → X w' args)
    (own : ownKnob C.prog.godebug = none) (started : os.Started) (noInit : C.prog.inits.idxOf? f = none) (hfn : C.prog.funcs[f]? = some fn)
    (witness : ∃ (w : World) (tape : Tape) (i : Input), w.os = os ∧ (w.forCall tape i).Shaped C.prog ∧ i.vars = [] ∧ Input.okWide C.prog (w.forCall tape i) .any w.heap.size f i ∧
      ((s.pre enc C.prog fn conds apart (w.forCall tape i).memory i.args ∧ X (w.forCall tape i).memory i.args) ∧ sizedMet enc C.prog fn (OpenSpec.ofChange s) apart (w.forCall tape i).memory i.args) ∧ a.holds C.prog (lone (Frame.enter C.prog f i.args .normal) [] (w.forCall tape i)))
    (contract : ∀ (W : World) (base : Nat) (args : Array Value) (ds gs : List (DataW H)) (before : List MemPlace),
      (∀ (j : Nat) t v, fn.params[j]? = some t → args[j]? = some v → Value.okWide C.prog W .any base t v) →
      DataW.Whole enc C.prog fn.params.toList s.vars apart W args.toList ds gs before → X W args → W.ShapedOpen C.prog →
      Calls C.prog f args W fun e W' => ∃ v, e = .returned v ∧ s.post enc C.prog fn apart fresh handsOn again W args v W') :
    ReturnsInHanded a C os f .any (fun w args => (s.pre enc C.prog fn conds apart w args ∧ X w args) ∧ sizedMet enc C.prog fn (OpenSpec.ofChange s) apart w args) (s.post enc C.prog fn apart fresh handsOn again) := by
  refine returnsInHanded_of_calls own started noInit witness ?_
  intro w tape i _ hsh _ hok hpre hholds
  obtain ⟨_, _, _, fn', hfn', _, _, _, _, hval⟩ := hok
  have e : fn' = fn := Option.some.inj (hfn'.symm.trans hfn)
  subst e
  obtain ⟨⟨⟨ds, gs, before, hw, hc⟩, hx⟩, hz⟩ := hpre
  have hw' := DataW.Whole.of_heap (w' := w.forCall tape i) (by rfl) hw
  refine (contract (w.forCall tape i) w.heap.size i.args ds gs before hval hw' (hX _ _ _ (by rfl) hx) hsh).mono fun e W' ⟨v, he, hp⟩ => ?_
  subst he
  exact ChangeSpec.post_blind hp
end
end K

namespace Go.Proofs.YtcaaikdcbmncmaaGreatDoor
theorem own : ownKnob Tryz.prog.godebug = none := by kernel_rfl
end Go.Proofs.YtcaaikdcbmncmaaGreatDoor

open Go LA Go.Proofs
namespace K
noncomputable def sp1 : T LA.Spec := sp0.set 21 (spConst (.bool true))
theorem known22 {W : World} (o : WOk W) : Base Tryz.prog (ck (fxOf W)) E sp1 := by
  obtain ⟨h1, e⟩ := okT_some known22_run
  exact (base o).set (const_spec (base o) e rfl)

end K
