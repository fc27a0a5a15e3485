/-
ActNone answers true at every input, its arguments as they were: the tied card of the seat. The condition is the row's own: the listed variables of Go's library as the program's text lays them.
-/
import Derived.Test.YtcaaikdcbmncmaaGreatDoorWrap
import Derived.Test.YtcaaikdcbmncmaaGreatDoorNoneA
open Go LA Go.Proofs
namespace K
open Go.RowKit
theorem none_all (x : Nat) (hx : x < 14) : runNone x = true := by
  match x, hx with
  | 0, _ => exact none_0
  | 1, _ => exact none_1
  | 2, _ => exact none_2
  | 3, _ => exact none_3
  | 4, _ => exact none_4
  | 5, _ => exact none_5
  | 6, _ => exact none_6
  | 7, _ => exact none_7
  | 8, _ => exact none_8
  | 9, _ => exact none_9
  | 10, _ => exact none_10
  | 11, _ => exact none_11
  | 12, _ => exact none_12
  | 13, _ => exact none_13

theorem walkNone {W : World} (o : WOk W) (a b : Int) (wa : (Lit.int .u8 a).wf = true) (wb : (Lit.int .u8 b).wf = true) :
    Calls Tryz.prog 7 #[.int .u8 a, .int .u8 b] W fun e w' => e = .returned (.bool true) ∧ Below W.heap.size W w' := by
  obtain ⟨h1, e⟩ := okT_some (none_all (a.toNat % 14) (Nat.mod_lt _ (by omega)))
  have hb := u8_ab wb 1
  rw [Nat.mod_one] at hb
  exact calls_flat (known22 o) (enters (f := 7) (by kernel_rfl)) e (fix_in W) (.cons (u8_ab wa 14) (.cons hb .nil))
end K

open Go LA Go.Proofs
namespace Go.Proofs.YtcaaikdcbmncmaaGreatDoor
open Go.ChangeShapes Go.WideShapes Go.ChangeAt Go.RowKit

set_option maxRecDepth 100000 in
theorem actNone_lifted (os : Os) (started : os.Started) (H : Type) (enc : TypeId × Value → H) :
    ReturnsInHanded {} Tryz.checked os 7 .any (fun w args => (Rows.actNoneSpec.pre enc Tryz.prog Tryz.f7 Rows.actNoneRow.domain false w args ∧ laidMetH Tryz.prog Rows.actNoneRow.laid w) ∧ sizedMet enc Tryz.prog Tryz.f7 (OpenSpec.ofChange Rows.actNoneSpec) false w args)
      (Rows.actNoneSpec.post enc Tryz.prog Tryz.f7 false true false false) := by
  refine K.wrap_row (C := Tryz.checked) (X := fun w _ => laidMetH Tryz.prog Rows.actNoneRow.laid w) (fun _ _ _ hh h => h.of_heap hh) own started (by kernel_rfl) Tryz.func7
    (ChangeSpec.witness_shaped (enc := enc) (C := Tryz.checked) (os := os) (X := fun w _ => laidMetH Tryz.prog Rows.actNoneRow.laid w) false (World.laidAll Tryz.prog os Rows.actNoneRow.laid) #[.int .u8 0, .int .u8 0] 8 (World.laidAll_os _ _ _)
      (World.shaped_of_ZipB (by kernel_rfl) (by kernel_rfl)) (by kernel_rfl) (by kernel_rfl) (by kernel_rfl)
      (by rw [MakeChecks.laidMetH_plain _ _ _ (by kernel_rfl)]; exact laidMet_laidAll _ (by kernel_rfl) (by kernel_rfl))) ?_
  intro W base args ds gs before hval0 hW hL hsh
  have hval : ∀ (j : Nat) t v, Tryz.f7.params[j]? = some t → args[j]? = some v → Value.okWide Tryz.prog W .any base t v := hval0
  have hW' := hW
  obtain ⟨p, q, hA0, hV, rfl, hfz, hnd⟩ := hW
  have hA : DataW.TrodAll enc Tryz.prog W 0 (fun _ => true) true Tryz.f7.params.toList args.toList ds p := hA0
  rw [Tryz.params7] at hA hval
  obtain ⟨v0, vs0, d0, ds0, p0, q0, hargs, rfl, rfl, h0, r0⟩ := trodAll_cons hA
  obtain ⟨v1, vs1, d1, ds1, p1, q1, rfl, rfl, rfl, h1, r1⟩ := trodAll_cons r0
  obtain ⟨rfl, rfl, rfl⟩ := trodAll_nil r1
  obtain rfl : args = #[v0, v1] := by cases args; simp_all
  obtain ⟨rfl, rfl⟩ := trodVars_none hV
  obtain ⟨a0, rfl, rfl, rfl, w0⟩ := open_int Tryz.underlying5 (hval 0 5 v0 rfl rfl) h0
  obtain ⟨a1, rfl, rfl, rfl, w1⟩ := open_int Tryz.underlying5 (hval 1 5 v1 rfl rfl) h1
  clear hA0 hval0
  simp only [List.append_nil] at hW'
  refine (K.walkNone (K.wok_of hsh hL) a0 a1 w0 w1).mono fun e W' ⟨he, hg⟩ => ?_
  subst he
  exact ⟨_, rfl, _, _, _, [], [], [], hW', trodAll_cons_mk (shut_bool Tryz.underlying4 _) trodAll_mk0, (trodAll_cons_mk (shut_int Tryz.underlying5 w0) (trodAll_cons_mk (shut_int Tryz.underlying5 w1) trodAll_mk0)), rfl, hg.frame _, fun h => by cases h⟩

set_option maxHeartbeats 8000000 in
theorem actNone_facts : joinedFacts Tryz.prog 7 Tryz.f7 Rows.actNoneSpec Rows.actNoneRow = true := by
  unfold joinedFacts
  simp only [Bool.and_eq_true]
  refine ⟨⟨⟨⟨⟨⟨⟨⟨⟨⟨⟨⟨⟨⟨⟨⟨⟨⟨⟨⟨⟨⟨⟨⟨⟨⟨⟨⟨⟨⟨⟨?_, ?_⟩, ?_⟩, ?_⟩, ?_⟩, ?_⟩, ?_⟩, ?_⟩, ?_⟩, ?_⟩, ?_⟩, ?_⟩, ?_⟩, ?_⟩, ?_⟩, ?_⟩, ?_⟩, ?_⟩, ?_⟩, ?_⟩, ?_⟩, ?_⟩, ?_⟩, ?_⟩, ?_⟩, ?_⟩, ?_⟩, ?_⟩, ?_⟩, ?_⟩, ?_⟩, ?_⟩ <;> (as_aux_lemma => kernel_rfl)

theorem actNone_over : Rows.actNoneRow.holds Tryz.pinned (OpenSpec.ofChange Rows.actNoneSpec) :=
  OpenClaim.holds_of_wide 7 Tryz.f7 rfl rfl rfl rfl rfl rfl rfl ⟨rfl, rfl, rfl, rfl, rfl⟩ rfl rfl rfl rfl rfl (by as_aux_lemma => kernel_rfl) Tryz.func7 actNone_facts
    (of_decide_eq_true (by as_aux_lemma => kernel_rfl)) (by unfold Func.isWrapper; first | (rw [if_pos (by as_aux_lemma => decide +kernel)]; kernel_rfl) | (rw [if_neg (by as_aux_lemma => decide +kernel)]; exact ⟨rfl, rfl⟩))
    (fun os started H enc _ => actNone_lifted os started H enc)

/-- THE STATEMENT -/
theorem actNone_card : Rows.ActNoneCardSaid :=
  Claim7.holds_tied_plain_at .later [] [.data, .data, .data, .data, .sentinel, .sentinel, .pinned] true (true, "995417717d3d17dcfe631355ddf51590c78f3d8a40ae04c89e85f2dd3a25337c") true actNone_over (fun _ h => by cases h) (by as_aux_lemma => kernel_rfl) (fun _ h => by cases h) actNone_row_tie rfl ⟨rfl, rfl⟩ (by as_aux_lemma => kernel_rfl) rfl
    (fun f fn hf hfn => by
      obtain rfl : f = 7 := Option.some.inj ((show Tryz.prog.funcNamed "landau/landaulaw22.ActNone" = some 7 by as_aux_lemma => kernel_rfl).symm.trans hf) |>.symm
      obtain rfl : fn = Tryz.f7 := (Option.some.inj (Tryz.func7.symm.trans hfn)).symm
      exact ⟨by as_aux_lemma => kernel_rfl, fun j t ht => by
        rw [Tryz.params7] at ht
        have hm : t ∈ [5, 5] := by simpa using Array.mem_of_getElem? ht
        have hall : ([5, 5].all fun u => !Tryz.prog.wantsStandIn u) = true := by as_aux_lemma => kernel_rfl
        exact (show Tryz.prog.wantsStandIn t = false by simpa using List.all_eq_true.1 hall t hm)⟩)
    (K.goesBy_false _ rfl)
#print axioms actNone_card
end Go.Proofs.YtcaaikdcbmncmaaGreatDoor
