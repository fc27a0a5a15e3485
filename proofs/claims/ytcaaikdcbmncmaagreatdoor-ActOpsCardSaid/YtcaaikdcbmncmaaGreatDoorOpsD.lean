/-
ActOps answers true at every input, its arguments as they were: the tied card of the seat. The condition is the row's own: the listed variables of Go's library as the program's text lays them.
-/
import Derived.Test.YtcaaikdcbmncmaaGreatDoorWrap
import Derived.Test.YtcaaikdcbmncmaaGreatDoorOpsB
import Derived.Test.YtcaaikdcbmncmaaGreatDoorOpsC
open Go LA Go.Proofs
namespace K
open Go.RowKit
theorem ops_all (x y z : Nat) (hx : x < 15) (hy : y < 5) (hz : z < 4) : runOps x y z = true := by
  have key : ∀ x, x < 15 → ((List.range 20).all fun i => runOps x (i / 4) (i % 4)) = true := by
    intro x hx
    match x, hx with
    | 0, _ => exact ops_0
    | 1, _ => exact ops_1
    | 2, _ => exact ops_2
    | 3, _ => exact ops_3
    | 4, _ => exact ops_4
    | 5, _ => exact ops_5
    | 6, _ => exact ops_6
    | 7, _ => exact ops_7
    | 8, _ => exact ops_8
    | 9, _ => exact ops_9
    | 10, _ => exact ops_10
    | 11, _ => exact ops_11
    | 12, _ => exact ops_12
    | 13, _ => exact ops_13
    | 14, _ => exact ops_14
  have := List.all_eq_true.1 (key x hx) (4 * y + z) (List.mem_range.2 (by omega))
  have e1 : (4 * y + z) / 4 = y := by omega
  have e2 : (4 * y + z) % 4 = z := by omega
  rw [e1, e2] at this
  exact this

theorem walkOps {W : World} (o : WOk W) (a b c : Int) (wa : (Lit.int .u8 a).wf = true) (wb : (Lit.int .u8 b).wf = true) (wc : (Lit.int .u8 c).wf = true) :
    Calls Tryz.prog 6 #[.int .u8 a, .int .u8 b, .int .u8 c] W fun e w' => e = .returned (.bool true) ∧ Below W.heap.size W w' := by
  obtain ⟨h1, e⟩ := okT_some (ops_all (a.toNat % 15) (b.toNat % 5) (c.toNat % 4) (Nat.mod_lt _ (by omega)) (Nat.mod_lt _ (by omega)) (Nat.mod_lt _ (by omega)))
  exact calls_flat (known22 o) (enters (f := 6) (by kernel_rfl)) e (fix_in W) (.cons (u8_ab wa 15) (.cons (u8_ab wb 5) (.cons (u8_ab wc 4) .nil)))
end K

open Go LA Go.Proofs
namespace Go.Proofs.YtcaaikdcbmncmaaGreatDoor
open Go.ChangeShapes Go.WideShapes Go.ChangeAt Go.RowKit

set_option maxRecDepth 100000 in
theorem actOps_lifted (os : Os) (started : os.Started) (H : Type) (enc : TypeId × Value → H) :
    ReturnsInHanded {} Tryz.checked os 6 .any (fun w args => (Rows.actOpsSpec.pre enc Tryz.prog Tryz.f6 Rows.actOpsRow.domain false w args ∧ laidMetH Tryz.prog Rows.actOpsRow.laid w) ∧ sizedMet enc Tryz.prog Tryz.f6 (OpenSpec.ofChange Rows.actOpsSpec) false w args)
      (Rows.actOpsSpec.post enc Tryz.prog Tryz.f6 false true false false) := by
  refine K.wrap_row (C := Tryz.checked) (X := fun w _ => laidMetH Tryz.prog Rows.actOpsRow.laid w) (fun _ _ _ hh h => h.of_heap hh) own started (by kernel_rfl) Tryz.func6
    (ChangeSpec.witness_shaped (enc := enc) (C := Tryz.checked) (os := os) (X := fun w _ => laidMetH Tryz.prog Rows.actOpsRow.laid w) false (World.laidAll Tryz.prog os Rows.actOpsRow.laid) #[.int .u8 0, .int .u8 0, .int .u8 0] 8 (World.laidAll_os _ _ _)
      (World.shaped_of_ZipB (by kernel_rfl) (by kernel_rfl)) (by kernel_rfl) (by kernel_rfl) (by kernel_rfl)
      (by rw [MakeChecks.laidMetH_plain _ _ _ (by kernel_rfl)]; exact laidMet_laidAll _ (by kernel_rfl) (by kernel_rfl))) ?_
  intro W base args ds gs before hval0 hW hL hsh
  have hval : ∀ (j : Nat) t v, Tryz.f6.params[j]? = some t → args[j]? = some v → Value.okWide Tryz.prog W .any base t v := hval0
  have hW' := hW
  obtain ⟨p, q, hA0, hV, rfl, hfz, hnd⟩ := hW
  have hA : DataW.TrodAll enc Tryz.prog W 0 (fun _ => true) true Tryz.f6.params.toList args.toList ds p := hA0
  rw [Tryz.params6] at hA hval
  obtain ⟨v0, vs0, d0, ds0, p0, q0, hargs, rfl, rfl, h0, r0⟩ := trodAll_cons hA
  obtain ⟨v1, vs1, d1, ds1, p1, q1, rfl, rfl, rfl, h1, r1⟩ := trodAll_cons r0
  obtain ⟨v2, vs2, d2, ds2, p2, q2, rfl, rfl, rfl, h2, r2⟩ := trodAll_cons r1
  obtain ⟨rfl, rfl, rfl⟩ := trodAll_nil r2
  obtain rfl : args = #[v0, v1, v2] := by cases args; simp_all
  obtain ⟨rfl, rfl⟩ := trodVars_none hV
  obtain ⟨a0, rfl, rfl, rfl, w0⟩ := open_int Tryz.underlying5 (hval 0 5 v0 rfl rfl) h0
  obtain ⟨a1, rfl, rfl, rfl, w1⟩ := open_int Tryz.underlying5 (hval 1 5 v1 rfl rfl) h1
  obtain ⟨a2, rfl, rfl, rfl, w2⟩ := open_int Tryz.underlying5 (hval 2 5 v2 rfl rfl) h2
  clear hA0 hval0
  simp only [List.append_nil] at hW'
  refine (K.walkOps (K.wok_of hsh hL) a0 a1 a2 w0 w1 w2).mono fun e W' ⟨he, hg⟩ => ?_
  subst he
  exact ⟨_, rfl, _, _, _, [], [], [], hW', trodAll_cons_mk (shut_bool Tryz.underlying4 _) trodAll_mk0, (trodAll_cons_mk (shut_int Tryz.underlying5 w0) (trodAll_cons_mk (shut_int Tryz.underlying5 w1) (trodAll_cons_mk (shut_int Tryz.underlying5 w2) trodAll_mk0))), rfl, hg.frame _, fun h => by cases h⟩

set_option maxHeartbeats 8000000 in
theorem actOps_facts : joinedFacts Tryz.prog 6 Tryz.f6 Rows.actOpsSpec Rows.actOpsRow = true := by
  unfold joinedFacts
  simp only [Bool.and_eq_true]
  refine ⟨⟨⟨⟨⟨⟨⟨⟨⟨⟨⟨⟨⟨⟨⟨⟨⟨⟨⟨⟨⟨⟨⟨⟨⟨⟨⟨⟨⟨⟨⟨?_, ?_⟩, ?_⟩, ?_⟩, ?_⟩, ?_⟩, ?_⟩, ?_⟩, ?_⟩, ?_⟩, ?_⟩, ?_⟩, ?_⟩, ?_⟩, ?_⟩, ?_⟩, ?_⟩, ?_⟩, ?_⟩, ?_⟩, ?_⟩, ?_⟩, ?_⟩, ?_⟩, ?_⟩, ?_⟩, ?_⟩, ?_⟩, ?_⟩, ?_⟩, ?_⟩, ?_⟩ <;> (as_aux_lemma => kernel_rfl)

theorem actOps_over : Rows.actOpsRow.holds Tryz.pinned (OpenSpec.ofChange Rows.actOpsSpec) :=
  OpenClaim.holds_of_wide 6 Tryz.f6 rfl rfl rfl rfl rfl rfl rfl ⟨rfl, rfl, rfl, rfl, rfl⟩ rfl rfl rfl rfl rfl (by as_aux_lemma => kernel_rfl) Tryz.func6 actOps_facts
    (of_decide_eq_true (by as_aux_lemma => kernel_rfl)) (by unfold Func.isWrapper; first | (rw [if_pos (by as_aux_lemma => decide +kernel)]; kernel_rfl) | (rw [if_neg (by as_aux_lemma => decide +kernel)]; exact ⟨rfl, rfl⟩))
    (fun os started H enc _ => actOps_lifted os started H enc)

/-- THE STATEMENT -/
theorem actOps_card : Rows.ActOpsCardSaid :=
  Claim7.holds_tied_plain_at .later [] [.data, .data, .data, .data, .sentinel, .sentinel, .pinned] true (true, "995417717d3d17dcfe631355ddf51590c78f3d8a40ae04c89e85f2dd3a25337c") true actOps_over (fun _ h => by cases h) (by as_aux_lemma => kernel_rfl) (fun _ h => by cases h) actOps_row_tie rfl ⟨rfl, rfl⟩ (by as_aux_lemma => kernel_rfl) rfl
    (fun f fn hf hfn => by
      obtain rfl : f = 6 := Option.some.inj ((show Tryz.prog.funcNamed "landau/landaulaw22.ActOps" = some 6 by as_aux_lemma => kernel_rfl).symm.trans hf) |>.symm
      obtain rfl : fn = Tryz.f6 := (Option.some.inj (Tryz.func6.symm.trans hfn)).symm
      exact ⟨by as_aux_lemma => kernel_rfl, fun j t ht => by
        rw [Tryz.params6] at ht
        have hm : t ∈ [5, 5, 5] := by simpa using Array.mem_of_getElem? ht
        have hall : ([5, 5, 5].all fun u => !Tryz.prog.wantsStandIn u) = true := by as_aux_lemma => kernel_rfl
        exact (show Tryz.prog.wantsStandIn t = false by simpa using List.all_eq_true.1 hall t hm)⟩)
    (K.goesBy_false _ rfl)
#print axioms actOps_card
end Go.Proofs.YtcaaikdcbmncmaaGreatDoor
