/-
That run is sound over the model: each operation.
-/
import Derived.Test.YtcaaikdcbmncmaaGreatDoorB
import Derived.Laws.Tables
import Derived.Great.BuildSlice
import Derived.Great.FillDense
import Derived.Laws.Build
import Derived.Laws.BytesString
import Derived.Laws.IdiomStrings
import Derived.MapKept
import Derived.Laws.RangeString
import Derived.Maps.RangeRun
namespace LA
open Go hiding Loc

section
variable {P : Program} {ck : Chk} {μ : Mu} {h : AH} {w : World}

theorem scalar_cell {v : AV} {rv : Value} (hv : VR μ v rv) {t : TypeId} (hk : kindN v = kindD P t) (hs : scalarT P t = true) : isScalV rv ∧ ∀ n, Instr.sameBits n rv rv = true := by
  obtain ⟨d, _, h2⟩ := kindN_val hv hk hs
  cases rv with
  | int k n => exact ⟨trivial, fun m => by cases m <;> simp [Instr.sameBits]⟩
  | string s => exact ⟨trivial, fun m => by cases m <;> (simp [Instr.sameBits]; rw [show (s == s) = (s.data == s.data) from rfl]; simp)⟩
  | bool b => exact ⟨trivial, fun m => by cases m <;> simp [Instr.sameBits]⟩
  | _ => exact h2.elim

theorem checkKey_struct {t : TypeId} {fs : Array Field} (hu : P.underlying t = some (.struct fs)) (hfs : ∀ i (f : Field), fs.toList[i]? = some f → f.name ≠ "_" ∧ f.offset = i ∧ scalarT P f.type = true)
    {cs : List AV} {rcs : List Value} (hc : VRs μ cs rcs) (hk : cs.map kindN = fs.toList.map (fun f => kindD P f.type)) (e : Bool) (n : Nat) : (Instr.checkKey e (n + 2) t (.agg ⟨rcs⟩)).run P w = .ok () w := by
  unfold Instr.checkKey
  simp only [Sem.run_bind, run_underlying hu, Result.andThen_ok]
  rw [← Array.forIn_toList]
  have key : ∀ (l : List Field) (k : Nat), (∀ i (f : Field), l[i]? = some f → f.name ≠ "_" ∧ f.offset = k + i ∧ scalarT P f.type = true) → ∀ (a : List AV), VRs μ a (rcs.drop k) → a.map kindN = l.map (fun f => kindD P f.type) →
      (forIn l PUnit.unit fun f _ => do
        if f.name ≠ "_" then do
          let x ← part f.type ⟨rcs⟩ f.offset
          Instr.checkKey e (n + 1) f.type x
          pure (ForInStep.yield PUnit.unit)
        else pure (ForInStep.yield PUnit.unit) : Sem PUnit).run P w = .ok PUnit.unit w := by
    intro l
    induction l with
    | nil => intro k _ a _ _; simp
    | cons f l ih =>
      intro k hf a ha hka
      cases a with
      | nil => cases hka
      | cons x a =>
        simp only [List.map_cons, List.cons.injEq] at hka
        obtain ⟨hn, ho, hs⟩ := hf 0 f rfl
        obtain ⟨rx, gx, vx⟩ := ha.get (i := 0) rfl
        rw [List.getElem?_drop] at gx
        have ho' : f.offset = k + 0 := ho
        have gx' : (⟨rcs⟩ : Array Value)[k + 0]? = some rx := by simpa using gx
        have h1 := part_run (P := P) hs gx' w
        have h2 := checkKey_scalar (P := P) hs e n rx w (scalar_cell vx hka.1 hs).1
        have ih' := ih (k + 1) (fun i f' hf' => by
          have := hf (i + 1) f' (by rw [List.getElem?_cons_succ]; exact hf')
          exact ⟨this.1, by rw [this.2.1]; omega, this.2.2⟩) a (by have := ha.drop 1; rw [List.drop_drop] at this; exact this) hka.2
        rw [List.forIn_cons]
        simp only [hn, ne_eq, not_false_eq_true, if_true, Sem.run_bind, ho', h1, Result.andThen_ok, h2, Sem.run_pure]
        exact ih'
  have := key fs.toList 0 (fun i f hf => by have := hfs i f hf; exact ⟨this.1, by rw [this.2.1]; omega, this.2.2⟩) cs (by simpa using hc) hk
  rw [this]; rfl

theorem sameBits_agg (n : Nat) : ∀ {cs : List AV} {rcs : List Value}, VRs μ cs rcs → ∀ {l : List Field}, (∀ f ∈ l, scalarT P f.type = true) → cs.map kindN = l.map (fun f => kindD P f.type) →
    (rcs.zip rcs).all (fun (x, y) => Instr.sameBits n x y) = true
  | _, _, .nil, _, _, _ => rfl
  | _, _, .cons a b, [], _, hk => by cases hk
  | _, _, .cons a b, f :: l, hl, hk => by
    simp only [List.map_cons, List.cons.injEq] at hk
    simp only [List.zip_cons_cons, List.all_cons, Bool.and_eq_true]
    exact ⟨(scalar_cell a hk.1 (hl f (by simp))).2 n, sameBits_agg n b (fun f hf => hl f (by simp [hf])) hk.2⟩

theorem sameBits_int (m : Nat) (k : IntKind) (n : Int) : Instr.sameBits m (.int k n) (.int k n) = true := by cases m <;> simp [Instr.sameBits]
theorem sameBits_str (m : Nat) (s : ByteArray) : Instr.sameBits m (.string s) (.string s) = true := by
  cases m <;> (simp [Instr.sameBits]; rw [show (s == s) = (s.data == s.data) from rfl]; simp)

theorem keyOk_ok {E : Env} (ok : EnvOk P E) {kt : TypeId} {k : AV} (hk : keyOk E kt k = true) {rk : Value} (hv : VR μ k rk) : KeyR P kt rk := by
  unfold keyOk at hk
  cases e : ti E kt with
  | none => rw [e] at hk; cases hk
  | some i =>
    rw [e] at hk
    have hr := ti_some ok e
    obtain ⟨q, d, h1, h2, h3, _⟩ := hr.info
    have hk : TK.rec (motive := fun _ => Bool) _ _ _ _ _ _ _ _ _ _ _ _ i.k = true := hk
    cases hik : i.k with
    | int k0 =>
      rw [hik] at hk h3
      have hd := TKof_int h3.symm
      subst hd
      cases hv with
      | int k1 n => exact ⟨fun e w => checkKey_scalar (by unfold scalarT; rw [h2]) e 9999 _ w trivial, sameBits_int _ _ _, .inl ⟨_, h2, .inl ⟨_, rfl⟩⟩⟩
      | _ => cases hk
    | string =>
      rw [hik] at hk h3
      have hd := TKof_string h3.symm
      subst hd
      cases hv with
      | str s => exact ⟨fun e w => checkKey_scalar (by unfold scalarT; rw [h2]) e 9999 _ w trivial, sameBits_str _ _, .inl ⟨_, h2, .inr rfl⟩⟩
      | _ => cases hk
    | struct fs =>
      rw [hik] at hk
      cases k with
      | agg cs =>
        cases hv
        rename_i rcs hc
        have hk' : kindsOk i cs = true := hk
        obtain ⟨hq, hfk⟩ := kinds_of hr hk'
        obtain ⟨fs, hu, hst, _, _, hfs⟩ := eqs_fields hq
        have hfk' : cs.map kindN = fs.toList.map (fun f => kindD P f.type) := by rw [hfk]; unfold fkOf; rw [hu]
        refine ⟨fun e w => checkKey_struct hu hfs hc hfk' e 9998, ?_, .inr ⟨fs, hu⟩⟩
        have := sameBits_agg (P := P) 9999 hc (l := fs.toList) (fun f hf => by
          obtain ⟨i, hi, e⟩ := List.getElem_of_mem hf
          exact (hfs i f (by rw [List.getElem?_eq_getElem hi, e])).2.2) hfk'
        show ((⟨rcs⟩ : Array Value).size == (⟨rcs⟩ : Array Value).size && (rcs.zip rcs).all fun (x, y) => Instr.sameBits 9999 x y) = true
        rw [this]; simp
      | _ => cases hk
    | _ => rw [hik] at hk; cases hk

/-- asking for a key -/
theorem findKey_ok {E : Env} (ok : EnvOk P E) {kt : TypeId} {k : AV} {rk : Value} (hk : VR μ k rk) (kr : KeyR P kt rk) {es : List (AV × AV × Nat)} {res : List MapEntry} (hm : MRs μ es res) {r : Option (Nat × AV × Nat)} (hr : mapFind E kt k es 0 = some r) :
    ∃ q, (Instr.findKey kt rk res).run P w = .ok q w ∧ FoundR μ es res 0 r q := by
  rcases kr.kind with ⟨d, hd, hp⟩ | ⟨fs, hu⟩
  · obtain ⟨q, q1, q2⟩ := findNow_ok ok hd hp hk hm 0 hr
    exact ⟨q, by simp [Instr.findKey, run_underlying hd, q1], q2⟩
  · cases hm with
    | nil => cases hr; exact ⟨none, by simp [Instr.findKey, run_underlying hu, Instr.findNow], .none⟩
    | cons a b c =>
      obtain ⟨q, q1, q2⟩ := findAsking_ok (w := w) ok hk (.cons a b c) 0 hr
      exact ⟨q, by simp only [Instr.findKey, Sem.run_bind, run_underlying hu, Result.andThen_ok, Instr.findNow, Instr.sameNow]; exact q1, q2⟩

theorem keyThatStays_self {rk : Value} (hs : Instr.sameBits 10000 rk rk = true) : (Instr.keyThatStays rk rk).run P w = .ok rk w := by
  unfold Instr.keyThatStays; simp [hs]
end
end LA

namespace LA
open Go hiding Loc

section
variable {P : Program} {ck : Chk} {μ : Mu} {h : AH} {w : World}

theorem evalO_ok {ts : T AV} {tmps : Array Value} (tr : TsR μ ts tmps) (d : List Deferred) (x : Operand) : VR μ (evalO ts x) (Act.eval ⟨tmps, d⟩ x) := by
  cases x with
  | tmp t =>
    show VR μ (Option.rec (motive := fun _ => AV) .junk (fun v => v) (T.get ts t)) _
    cases e : T.get ts t with
    | none => exact .junk _
    | some v => exact tr t v e
  | const v => exact conv_vr μ v
  | global g => exact .glob g
  | func f => exact .func f .nil .nil

theorem evs_ok {ts : T AV} {tmps : Array Value} (tr : TsR μ ts tmps) (d : List Deferred) (l : List Operand) : VRs μ (evs ts l) (l.map (Act.eval ⟨tmps, d⟩)) := by
  unfold evs
  rw [lmap_eq]
  induction l with
  | nil => exact .nil
  | cons x l ih => exact .cons (evalO_ok tr d x) ih

/-- parts of a composite -/
inductive PRs (μ : Mu) : List (Nat × AV) → List (Nat × Value) → Prop
  | nil : PRs μ [] []
  | cons {i : Nat} {v : AV} {rv : Value} {l : List (Nat × AV)} {rl : List (Nat × Value)} (h : VR μ v rv) (hs : PRs μ l rl) : PRs μ ((i, v) :: l) ((i, rv) :: rl)
theorem evp_ok {ts : T AV} {tmps : Array Value} (tr : TsR μ ts tmps) (d : List Deferred) (l : List (Nat × Operand)) : PRs μ (evp ts l) (l.map fun p => (p.1, Act.eval ⟨tmps, d⟩ p.2)) := by
  unfold evp
  rw [lmap_eq]
  induction l with
  | nil => exact .nil
  | cons x l ih => exact .cons (evalO_ok tr d x.2) ih

theorem conv_cells (μ : Mu) (v : Value) : VRs μ (conv v).cells v.cells.toList := by
  cases v with
  | agg cs => obtain ⟨cs⟩ := cs; have : conv (.agg ⟨cs⟩) = .agg (convs cs) := by unfold conv; rfl
              rw [this]; exact convs_vr μ cs
  | tuple cs => obtain ⟨cs⟩ := cs; have : conv (.tuple ⟨cs⟩) = .tup (convs cs) := by unfold conv; rfl
                rw [this]; exact .cons (.tup (convs_vr μ cs)) .nil
  | pointer a => cases a with
    | none => unfold conv; exact .cons .nilp .nil
    | some a => unfold conv; exact .cons (.junk _) .nil
  | slice a l c => cases a with
    | none =>
      unfold conv
      split
      · rename_i h; obtain ⟨rfl, rfl⟩ := h; exact .cons .nils .nil
      · exact .cons (.junk _) .nil
    | some a => unfold conv; exact .cons (.junk _) .nil
  | map a => cases a with
    | none => unfold conv; exact .cons .nilm .nil
    | some a => unfold conv; exact .cons (.junk _) .nil
  | bool b => unfold conv; exact .cons (.bool _) .nil
  | int k n => unfold conv; exact .cons (.int _ _) .nil
  | string s => unfold conv; exact .cons (.str _) .nil
  | iface t v => have : conv (.iface t v) = .iface t (conv v) := by rw [conv]
                 rw [this]; exact .cons (.iface t (conv_vr μ v)) .nil
  | nilFunc => unfold conv; exact .cons .nilf .nil
  | nilIface => unfold conv; exact .cons .nili .nil
  | _ => unfold conv; exact .cons (.junk _) .nil

theorem zero_conv {t : TypeId} {i : TI} (hi : TIr P t i) {z : AV} (hz : i.zero = some z) : ∃ (q : TypeInfo) (v : Value), P.info? t = some q ∧ q.zero = some v ∧ conv v = z ∧ q.size = i.size := by
  obtain ⟨q, d, h1, h2, h3, h4, h5, _⟩ := hi.info
  rw [hz] at h5
  cases e : q.zero with
  | none => rw [e] at h5; cases h5
  | some v => rw [e] at h5; injection h5 with h5; exact ⟨q, v, h1, e, h5.symm, h4.symm⟩

theorem allocOp_ok {E : Env} (ok : EnvOk P E) (r : R ck μ h w) {t : TypeId} {nx : Nx} (ha : allocOp E t h = some nx) : VOk P ck μ h w (Instr.alloc t true (.tuple #[])) nx := by
  obtain ⟨i, h1, h2⟩ := ob_some ha
  obtain ⟨z, h3, h4⟩ := ob_some h2
  rw [newRow_eq] at h4
  cases h4
  obtain ⟨q, v, q1, q2, q3, q4⟩ := zero_conv (ti_some ok h1) h3
  have hc : VRs μ z.cells v.cells.toList := q3 ▸ conv_cells μ v
  obtain ⟨μ', g1, g2, g3, g4⟩ := newRow_ok (P := P) r hc t
  refine ⟨.pointer (some ⟨w.heap.size, 0, none⟩), _, μ', ?_, ?_, g3, g4⟩
  · have : (⟨v.cells.toList⟩ : Array Value) = v.cells := rfl
    rw [this] at g1
    simp only [Instr.alloc, Sem.run_bind, zeroValue, run_typeInfo' q1, Result.andThen_ok, q2, Sem.run_pure, newVar, g1]
  · have := VR.ptr (μ := μ') (b := h.next) 0 g2
    simpa using this

theorem boxOp_ok (r : R ck μ h w) {v : AV} {rv : Value} (hv : VR μ v rv) {t : TypeId} {nx : Nx} (ha : boxOp v h = some nx) : VOk P ck μ h w (Instr.box t rv) nx := by
  obtain ⟨h1, h2⟩ := bo_some ha
  rw [newRow_eq] at h2
  cases h2
  obtain ⟨μ', g1, g2, g3, g4⟩ := newRow_ok (P := P) r (notJunk_cells h1 hv) t
  refine ⟨.pointer (some ⟨w.heap.size, 0, none⟩), _, μ', ?_, ?_, g3, g4⟩
  · have : (⟨rv.cells.toList⟩ : Array Value) = rv.cells := rfl
    rw [this] at g1
    simp [Instr.box, newVar, g1]
  · have := VR.ptr (μ := μ') (b := h.next) 0 g2
    simpa using this

/-- filling in -/
theorem fill_ok {place rplace : Nat → Option (Nat × Nat)} (hp : ∀ i q, place i = some q → rplace i = some q) : ∀ {parts : List (Nat × AV)} {rparts : List (Nat × Value)}, PRs μ parts rparts → ∀ {cs : List AV} {rcs : Array Value}, VRs μ cs rcs.toList →
    ∀ {cs' : List AV}, LA.fill place parts cs = some cs' → ∃ rcs' : Array Value, Instr.fill rplace rcs rparts = some rcs' ∧ VRs μ cs' rcs'.toList
  | _, _, .nil, cs, rcs, hc, cs', hf => by cases hf; exact ⟨rcs, rfl, hc⟩
  | _, _, .cons (i := i) (v := v) (rv := rv) (l := l) (rl := rl) a b, cs, rcs, hc, cs', hf => by
    obtain ⟨q, h1, h2⟩ := ob_some (show ob (place i) (fun q => bo (Bool.and (Bool.and (notJunk v) (Nat.beq (llen v.cells) q.2)) (Nat.ble (Nat.add q.1 q.2) (llen cs))) (LA.fill place l (lsetMany v.cells cs q.1))) = some cs' from hf)
    obtain ⟨h3, h4⟩ := bo_some h2
    have h3' : (notJunk v = true ∧ Nat.beq (llen v.cells) q.2 = true) ∧ Nat.ble (q.1 + q.2) (llen cs) = true := by simpa using h3
    obtain ⟨⟨g1, g2⟩, g3⟩ := h3'
    rw [llen_eq] at g2 g3
    have g2' : v.cells.length = q.2 := Nat.eq_of_beq_eq_true g2
    have g3' : q.1 + q.2 ≤ cs.length := Nat.le_of_ble_eq_true g3
    have hv := notJunk_cells g1 a
    have hvl : rv.cells.size = q.2 := by have := hv.length; rw [g2'] at this; simpa using this
    have hcl : rcs.size = cs.length := by have := hc.length; simpa using this
    have hset : VRs μ (lsetMany v.cells cs q.1) (rv.cells.zipIdx.foldl (fun cs (c, j) => cs.setIfInBounds (q.1 + j) c) rcs).toList := by
      have hf := Go.Great.foldl_set q.1 rv.cells.toList 0 rcs
      have he : rv.cells.zipIdx.foldl (fun cs (x : Value × Nat) => cs.setIfInBounds (q.1 + x.2) x.1) rcs = (rv.cells.toList.zipIdx 0).foldl (fun cs (x : Value × Nat) => cs.setIfInBounds (q.1 + x.2) x.1) rcs := by
        rw [← Array.foldl_toList, Array.toList_zipIdx]
      obtain ⟨f1, f2⟩ := hf
      rw [← he] at f1 f2
      apply VRs.of_get
      · have f1' : (rv.cells.zipIdx.foldl (fun cs (c, j) => cs.setIfInBounds (q.1 + j) c) rcs).size = rcs.size := f1
        rw [lsetMany_length, Array.length_toList, f1', hcl]
      · intro j x hj
        rw [lsetMany_get _ _ _ _ (by omega)] at hj
        have f2' : ∀ k, (rv.cells.zipIdx.foldl (fun cs (c, j) => cs.setIfInBounds (q.1 + j) c) rcs)[k]? = _ := f2
        rw [Array.getElem?_toList, f2']
        split at hj
        · rename_i hr
          obtain ⟨rx, k1, k2⟩ := hv.get hj
          refine ⟨rx, ?_, k2⟩
          have hl : rv.cells.toList.length = v.cells.length := hv.length
          rw [if_pos ⟨by omega, by omega, by omega⟩]
          exact k1
        · rename_i hr
          obtain ⟨rx, k1, k2⟩ := hc.get hj
          refine ⟨rx, ?_, k2⟩
          have hl : rv.cells.toList.length = v.cells.length := hv.length
          rw [if_neg (by omega)]
          simpa using k1
    obtain ⟨rcs', k1, k2⟩ := fill_ok hp b hset h4
    refine ⟨rcs', ?_, k2⟩
    unfold Instr.fill
    rw [hp i q h1]
    have hcond : (rv.cells.size ≠ q.2 || q.1 + rv.cells.size > rcs.size) = false := by simp [hvl]; omega
    simp only [hcond]
    exact k1

theorem mapM_info (fs : List Field) (h : fs.all (fun f => (P.info? f.type).isSome) = true) :
    ∃ pl, fs.mapM (fun f => (P.info? f.type).map fun i => (f.offset, i.size)) = some pl ∧ ∀ (j : Nat) (f : Field) (q : TypeInfo), fs[j]? = some f → P.info? f.type = some q → pl[j]? = some (f.offset, q.size) := by
  induction fs with
  | nil => exact ⟨[], rfl, fun j f q h => by cases h⟩
  | cons f fs ih =>
    simp only [List.all_cons, Bool.and_eq_true] at h
    obtain ⟨pl, h1, h2⟩ := ih h.2
    obtain ⟨q, hq⟩ := Option.isSome_iff_exists.1 h.1
    refine ⟨(f.offset, q.size) :: pl, by simp [List.mapM_cons, hq, h1], fun j f' q' hj hq' => ?_⟩
    cases j with
    | zero => cases hj; rw [hq] at hq'; cases hq'; rfl
    | succ j => rw [List.getElem?_cons_succ] at hj ⊢; exact h2 j f' q' hj hq'

theorem buildOp_ok {E : Env} (ok : EnvOk P E) (r : R ck μ h w) {t : TypeId} {parts : List (Nat × AV)} {rparts : Array (Nat × Value)} (hp : PRs μ parts rparts.toList) {nx : Nx} (ha : buildOp E t parts h = some nx) : VOk P ck μ h w (Instr.build t rparts) nx := by
  obtain ⟨i, h1, h2⟩ := ob_some ha
  obtain ⟨z, h3, h4⟩ := ob_some h2
  obtain ⟨hfok, h4⟩ := bo_some h4
  obtain ⟨cs, h5, h6⟩ := ob_some h4
  cases h6
  have hr := ti_some ok h1
  obtain ⟨q, v, q1, q2, q3, q4⟩ := zero_conv hr h3
  have hc : VRs μ z.cells v.cells.toList := q3 ▸ conv_cells μ v
  obtain ⟨q', d, e1, e2, e3, e4, e5, e6, e7, e8, e9, e10⟩ := hr.info
  rw [q1] at e1; cases e1
  have h5' : TK.rec (motive := fun _ => Option (List AV)) _ _ _ _ _ _ _ _ _ _ _ _ i.k = some cs := h5
  have fin : ∀ rcs' : Array Value, P.built t rparts.toList = some rcs' → VRs μ cs rcs'.toList → VOk P ck μ h w (Instr.build t rparts) (.val (.agg cs) h) := fun rcs' hb hv =>
    gives_pure r (run_build w t rparts rcs' hb) (by
      have := VR.agg (μ := μ) hv
      simpa using this)
  cases hk : i.k with
  | struct fs =>
    rw [hk] at h5' e3
    have h5'' : LA.fill (placeS E fs) parts z.cells = some cs := h5'
    have hd : ∃ q : Array Field, d = .struct q ∧ fs = q.toList.map fun f => (f.offset, f.type) := by cases d <;> simp_all [TK.of]
    obtain ⟨fields, rfl, rfl⟩ := hd
    rw [e10] at hfok
    unfold fokOf at hfok
    rw [e2] at hfok
    obtain ⟨pl, p1, p2⟩ := mapM_info (P := P) fields.toList hfok
    obtain ⟨rcs', k1, k2⟩ := fill_ok (rplace := (pl.toArray[·]?)) (fun j q hq => by
      obtain ⟨p, g1, g2⟩ := ob_some hq
      obtain ⟨qi, g3, g4⟩ := ob_some g2
      cases g4
      rw [lget_eq, List.getElem?_map] at g1
      simp only [Option.map_eq_some_iff] at g1
      obtain ⟨f, f1, rfl⟩ := g1
      obtain ⟨qq, dd, i1, i2, i3, i4, _⟩ := (ti_some ok g3).info
      rw [i4]
      simpa using p2 j f qq f1 i1) hp hc h5''
    exact fin rcs' (by unfold Program.built; rw [q1, e2]; simp only [q2, p1]; exact k1) k2
  | array n e =>
    rw [hk] at h5' e3
    obtain ⟨qi, g1, g2⟩ := ob_some (show ob (ti E e) (fun q => LA.fill (placeA q.size) parts z.cells) = some cs from h5')
    have hd : d = .array n e := by cases d <;> simp_all [TK.of]
    subst hd
    obtain ⟨qq, dd, i1, i2, i3, i4, _⟩ := (ti_some ok g1).info
    obtain ⟨rcs', k1, k2⟩ := fill_ok (rplace := fun i => some (i * qq.size, qq.size)) (fun j q hq => by cases hq; rw [i4]; rfl) hp hc g2
    exact fin rcs' (by unfold Program.built; rw [q1, e2]; simp only [q2, i1]; exact k1) k2
  | _ => rw [hk] at h5'; cases h5'
end
end LA

namespace LA
open Go hiding Loc

section
variable {P : Program} {ck : Chk} {μ : Mu} {h : AH} {w : World}

theorem VRs.replicate {z : List AV} {rz : List Value} (hz : VRs μ z rz) : ∀ n, VRs μ (List.replicate n z).flatten (List.replicate n rz).flatten
  | 0 => .nil
  | n + 1 => by rw [List.replicate_succ, List.replicate_succ, List.flatten_cons, List.flatten_cons]; exact VRs.append hz (VRs.replicate hz n)

theorem flat_getElem? {α : Type} (l : List α) (n j : Nat) (_hl : 0 < l.length) (hj : j < n * l.length) : (List.replicate n l).flatten[j]? = l[j % l.length]? := by
  induction n generalizing j with
  | zero => omega
  | succ n ih =>
    rw [List.replicate_succ, List.flatten_cons]
    by_cases h : j < l.length
    · rw [List.getElem?_append_left h, Nat.mod_eq_of_lt h]
    · rw [List.getElem?_append_right (by omega)]
      have hm : (n + 1) * l.length = n * l.length + l.length := Nat.succ_mul _ _
      rw [ih (j - l.length) (by omega)]
      congr 1
      rw [Nat.mod_eq_sub_mod (by omega : j ≥ l.length)]

/-- the cells of n zero values -/
theorem zeros_toList (zc : Array Value) (n : Nat) : ((Array.range (n * zc.size)).map fun i => zc[i % zc.size]!).toList = (List.replicate n zc.toList).flatten := by
  apply List.ext_getElem?
  intro j
  by_cases hz : zc.size = 0
  · simp [hz]
  · by_cases hj : j < n * zc.size
    · rw [flat_getElem? zc.toList n j (by simp; omega) (by simpa using hj)]
      have hm : j % zc.size < zc.size := Nat.mod_lt _ (by omega)
      simp [hj, hm]
    · rw [List.getElem?_eq_none (by simp; omega), List.getElem?_eq_none (by simp; omega)]

theorem mkSlice_next (r : R ck μ h w) {sz n : Nat} {ex : Bool} {cs : List AV} {nx : Nx} (hm : mkSlice sz n ex cs h = some nx) {rcs : Array Value} (hv : VRs μ cs rcs.toList) (hn : cs.length = n * sz) {s : Sem Value} {e : TypeId}
    (hs : s.run P w = .ok (.slice (some ⟨w.heap.size, 0, none⟩) n n) (w.alloc (.cells rcs e))) : VOk P ck μ h w s nx := by
  obtain ⟨μ', _, h', v, rfl, g2, g3, g4⟩ := mkSlice_ok (P := P) r hm hv hn e
  exact ⟨_, _, μ', hs, g2, g3, g4⟩

theorem fill_length (place : Nat → Option (Nat × Nat)) : ∀ (parts : List (Nat × AV)) (cs cs' : List AV), LA.fill place parts cs = some cs' → cs'.length = cs.length
  | [], cs, cs', hf => by cases hf; rfl
  | (i, v) :: l, cs, cs', hf => by
    obtain ⟨q, h1, h2⟩ := ob_some (show ob (place i) (fun q => bo (Bool.and (Bool.and (notJunk v) (Nat.beq (llen v.cells) q.2)) (Nat.ble (Nat.add q.1 q.2) (llen cs))) (LA.fill place l (lsetMany v.cells cs q.1))) = some cs' from hf)
    obtain ⟨_, h4⟩ := bo_some h2
    rw [fill_length place l _ _ h4, lsetMany_length]

theorem buildSlOp_ok {E : Env} (ok : EnvOk P E) (r : R ck μ h w) {t : TypeId} {len : Nat} {parts : List (Nat × AV)} {rparts : Array (Nat × Value)} (hp : PRs μ parts rparts.toList) {nx : Nx} (ha : buildSlOp E t len parts h = some nx) :
    VOk P ck μ h w (Instr.buildSlice t len rparts) nx := by
  obtain ⟨e, h1, h2⟩ := asSl_some ha
  have hu := und_slice ok h1
  obtain ⟨i, h3, h4⟩ := ob_some h2
  obtain ⟨z, h5, h6⟩ := ob_some h4
  obtain ⟨h7, h8⟩ := bo_some h6
  have h7' : Nat.beq (llen z.cells) i.size = true ∧ Nat.ble (len * i.size) 65536 = true := by simpa using h7
  rw [llen_eq] at h7'
  have hzl : z.cells.length = i.size := Nat.eq_of_beq_eq_true h7'.1
  have hsm : len * i.size ≤ 65536 := Nat.le_of_ble_eq_true h7'.2
  obtain ⟨cs, h9, h10⟩ := ob_some h8
  obtain ⟨q, v, q1, q2, q3, q4⟩ := zero_conv (ti_some ok h3) h5
  have hc : VRs μ z.cells v.cells.toList := q3 ▸ conv_cells μ v
  have hvs : v.cells.size = i.size := by rw [← conv_cells_length, q3]; exact hzl
  have hl := fill_length _ _ _ _ h9
  rw [lrep_eq] at h9 hl
  have hcl : cs.length = len * i.size := by rw [hl]; simp [hzl]
  by_cases hz : len * i.size = 0
  · have hcs : cs = [] := by rw [hz] at hcl; exact List.eq_nil_of_length_eq_zero hcl
    obtain ⟨rcs', k1, k2⟩ := fill_ok (rplace := fun j => some (j * i.size, i.size)) (fun j q hq => by cases hq; rfl) hp (rcs := #[]) (cs := (List.replicate len z.cells).flatten) (by
      have : (List.replicate len z.cells).flatten = [] := List.eq_nil_of_length_eq_zero (by rw [← hl]; rw [hcs]; rfl)
      rw [this]; exact .nil) h9
    refine mkSlice_next r h10 k2 hcl (e := e) ?_
    have e0 : ∀ g : Nat → Value, Array.map g (Array.range 0) = #[] := fun g => Array.ext' (by simp)
    simp [Instr.buildSlice, run_underlying hu, Go.sizeOf, run_typeInfo' q1, q4, hz, e0, k1, Go.newRow]
  · have hzz : (Array.range (len * i.size)).map (v.cells[· % v.cells.size]!) = (Array.range (len * v.cells.size)).map (fun j => v.cells[j % v.cells.size]!) := by rw [hvs]
    obtain ⟨rcs', k1, k2⟩ := fill_ok (rplace := fun j => some (j * i.size, i.size)) (fun j q hq => by cases hq; rfl) hp (rcs := (Array.range (len * i.size)).map (v.cells[· % v.cells.size]!)) (by
      rw [hzz, zeros_toList]; exact hc.replicate len) h9
    refine mkSlice_next r h10 k2 hcl (e := e) ?_
    exact run_buildSlice w t e len rparts rcs' q v hu q1 q2 (by rw [q4]; omega) (by rw [q4]; exact hz) (by rw [q4]; exact k1)

theorem loadOp_ok {E : Env} (ok : EnvOk P E) (r : R ck μ h w) {t : TypeId} {a : AV} {ra : Value} (hv : VR μ a ra) {nx : Nx} (ha : loadOp E t a h = some nx) : VOk P ck μ h w (Instr.loadAt t ra) nx := by
  obtain ⟨b, o, rfl, h1⟩ := asPtr_some ha
  obtain ⟨v, h2, rfl⟩ := rO_some h1
  cases hv with
  | ptr o hL =>
    obtain ⟨rv, g1, g2⟩ := loadVar_ok ok r h2 hL
    exact gives_pure r (by simp [Instr.loadAt, Instr.sureAddr, g1]) g2

theorem storeOp_ok {E : Env} (ok : EnvOk P E) (r : R ck μ h w) {t : TypeId} {a v : AV} {ra rv : Value} (hv : VR μ a ra) (hx : VR μ v rv) {nx : Nx} (ha : storeOp E t a v h = some nx) : ∃ h', nx = .val LA.undef h' ∧ GivesU P ck μ h w (Instr.storeAt t ra rv) h' := by
  obtain ⟨i, h0, h0'⟩ := ob_some ha
  obtain ⟨b, o, rfl, h1⟩ := asPtr_some h0'
  obtain ⟨h2, h3⟩ := bo_some h1
  have h2' : notJunk v = true ∧ Nat.beq (llen v.cells) i.size = true := by simpa using h2
  rw [llen_eq] at h2'
  obtain ⟨h', h4, h5⟩ := ob_some h3
  have h6 := rV_some h5
  subst h6
  have hs : v.cells.length = i.size := Nat.eq_of_beq_eq_true h2'.2
  cases hv with
  | ptr o hL =>
    have hc := notJunk_cells h2'.1 hx
    obtain ⟨w', μ', g1, g2, g3⟩ := storeCells_ok (P := P) r h4 hL hc
    have hl : rv.cells.size = i.size := by have := hc.length; rw [hs] at this; simpa using this
    refine ⟨h', rfl, w', μ', ?_, g2, g3⟩
    simp [Instr.storeAt, Instr.sureAddr, Go.storeVar, (ti_some ok h0).size_run, hl, g1]

theorem nilCk_ok (r : R ck μ h w) {v : AV} {rv : Value} (hv : VR μ v rv) {nx : Nx} (ha : nilCk v h = some nx) {s : Sem Next}
    (hs : s = match rv with
      | .pointer none | .nilIface | .nilFunc => runtimePanic .nilDeref
      | .func (.method name) first captured =>
        match (first[0]? : Option Value) with
        | some .nilIface => runtimePanic .nilDeref
        | some (.iface t w) => do
          if (← nilAhead ((← program).types.size + Made.depth) t w name) != some false then
            unsupported (.noEntry "op/nilCheck.the method's receiver behind this interface value is a nil pointer, or cannot be seen to be none, and the arguments act or may panic (ledger 612)")
          pure (.value (.func (.method name) first captured))
        | _ => pure (.value (.func (.method name) first captured))
      | x => pure (.value x)) : NxOk P ck μ h w s nx := by
  have fin : ∀ nx', nx' = Nx.val v h → s = pure (.value rv) → NxOk P ck μ h w s nx' := by
    intro nx' e1 e2
    subst e1
    exact ⟨w, μ, rv, .inl (by rw [e2]; rfl), hv, r, Ext.refl _ _ _⟩
  cases hv with
  | nilp => cases ha
  | nili => cases ha
  | nilf => cases ha
  | junk => cases ha
  | _ => exact fin nx (rV_some ha) hs

theorem unOpA_ok (r : R ck μ h w) {op : UnOp} {v : AV} {rv : Value} (hv : VR μ v rv) {nx : Nx} (ha : unOpA op v h = some nx) : VOk P ck μ h w (Op.unary op rv) nx := by
  cases op with
  | not =>
    obtain ⟨b, rfl, h1⟩ := asBool_some (show asBool v (fun b => rV h (.bool (Bool.not b))) = some nx from ha)
    have := rV_some h1; subst this
    cases hv
    exact gives_pure r (by rfl) (.bool _)
  | neg =>
    obtain ⟨k, n, rfl, h1⟩ := asInt_some (show asInt v (fun k n => rO h (rI k (Int.sub 0 n))) = some nx from ha)
    rw [rI_eq] at h1
    obtain ⟨a, h2, rfl⟩ := rO_some h1
    cases h2
    cases hv
    exact gives_pure r (rv := .int k (k.wrap (0 - n))) (by simp [Op.unary, Op.intArith]) (.int _ _)
  | _ => cases ha

theorem mkIface_ok {E : Env} (ok : EnvOk P E) (r : R ck μ h w) {t : TypeId} {v : AV} {rv : Value} (hv : VR μ v rv) {nx : Nx} (ha : mkIface E t v h = some nx) : VOk P ck μ h w (Instr.makeInterface t rv) nx := by
  have fin : ∀ d, P.underlying t = some d → (∀ a, d ≠ .interface a) → rV h (.iface t v) = some nx → VOk P ck μ h w (Instr.makeInterface t rv) nx := by
    intro d hd hn e
    have := rV_some e; subst this
    refine gives_pure r (rv := .iface t rv) ?_ (.iface t hv)
    unfold Instr.makeInterface
    simp only [Sem.run_bind, run_underlying hd, Result.andThen_ok]
    cases d <;> first | rfl | exact absurd rfl (hn _)
  unfold mkIface at ha
  cases hk : tyk E t with
  | iface => rw [hk] at ha; cases ha
  | other => rw [hk] at ha; cases ha
  | _ =>
    obtain ⟨_, d, _, _, _, g2, g3⟩ := und_of ok hk (by simp)
    rw [hk] at ha
    exact fin d g2 (fun a e => by subst e; cases g3) ha

theorem mkFunc_ok (r : R ck μ h w) {fn : Fn} {a b : List AV} {ra rb : List Value} (h1 : VRs μ a ra) (h2 : VRs μ b rb) {nx : Nx} (ha : mkFunc fn a b h = some nx) : VOk P ck μ h w (Instr.makeFunc fn ⟨ra⟩ ⟨rb⟩) nx := by
  cases fn with
  | func f =>
    have := rV_some (show rV h (.func f a b) = some nx from ha)
    subst this
    exact gives_pure r rfl (.func f h1 h2)
  | _ => cases ha

theorem makeMap_ok (r : R ck μ h w) {t : TypeId} {nx : Nx} (ha : LA.alloc h (.map [] 0) (fun b h => rV h (.map b)) = some nx) : VOk P ck μ h w (Instr.makeMap t none) nx := by
  rw [alloc_eq] at ha
  have := rV_some ha; subst this
  obtain ⟨ra, ea⟩ := r.alloc (.map [] 0) (fun cs l e => by cases e) (.map #[] 0) 0 0 ⟨#[], World.alloc_heap_new _ _, .nil, by simp⟩
  exact ⟨.map (some w.heap.size), _, _, by simp [Instr.makeMap], VR.map (Mu.upd_same _ _ _), ra, ea⟩

theorem makeSlOp_ok {E : Env} (ok : EnvOk P E) (r : R ck μ h w) {t : TypeId} {l c : AV} {rl rc : Value} (hl : VR μ l rl) (hc : VR μ c rc) {nx : Nx} (ha : makeSlOp E t l c h = some nx) : VOk P ck μ h w (Instr.makeSlice t rl rc) nx := by
  obtain ⟨e, h1, h2⟩ := asSl_some ha
  have hu := und_slice ok h1
  obtain ⟨kl, nl, rfl, h3⟩ := asNat_some h2
  obtain ⟨kc, nc, rfl, h4⟩ := asNat_some h3
  obtain ⟨h5, h6⟩ := bo_some h4
  have h5' : fits nc = true ∧ Nat.ble nl nc = true := (Bool.and_eq_true _ _).mp h5
  have hfit : nc ≤ 1048576 := Nat.le_of_ble_eq_true h5'.1
  have hlc : nl ≤ nc := Nat.le_of_ble_eq_true h5'.2
  obtain ⟨i, h7, h8⟩ := ob_some h6
  obtain ⟨hsm, h8⟩ := bo_some h8
  obtain ⟨z, h9, h10⟩ := ob_some h8
  obtain ⟨hzl, h10⟩ := bo_some h10
  rw [llen_eq] at hzl
  have hzl' : z.cells.length = i.size := Nat.eq_of_beq_eq_true hzl
  rw [newRow_eq, lrep_eq] at h10
  have := rV_some h10; subst this
  have hi := ti_some ok h7
  obtain ⟨q, v, q1, q2, q3, q4⟩ := zero_conv hi h9
  have hcv : VRs μ z.cells v.cells.toList := q3 ▸ conv_cells μ v
  have hvs : v.cells.size = i.size := by rw [← conv_cells_length, q3]; exact hzl'
  have hb := TI_bytes hi hsm q1
  cases hl; cases hc
  have hrun := run_make (P := P) w t e q v hu q1 q2 kl kc (Int.ofNat nl) (Int.ofNat nc) (Int.natCast_nonneg nl) (Int.ofNat_le.mpr hlc) (by
    have : q.bytes * nc ≤ 65536 * 1048576 := Nat.mul_le_mul hb hfit
    have h3 : (q.bytes : Int) * Int.ofNat nc = ((q.bytes * nc : Nat) : Int) := (Int.natCast_mul _ _).symm
    rw [h3]; omega) (by
    have h3 : Int.ofNat nc = (nc : Int) := rfl
    rw [h3]; omega)
  have hcells : madeCells v.cells ((Int.ofNat nc).toNat * q.size) = (Array.range (nc * v.cells.size)).map (fun j => v.cells[j % v.cells.size]!) := by
    unfold madeCells; rw [q4, hvs]; rfl
  rw [hcells] at hrun
  have hall : VRs μ (List.replicate nc z.cells).flatten ((Array.range (nc * v.cells.size)).map (fun j => v.cells[j % v.cells.size]!)).toList := by rw [zeros_toList]; exact hcv.replicate nc
  obtain ⟨μ', g1, g2, g3, g4⟩ := newRow_ok (P := P) r hall e
  refine ⟨_, _, μ', hrun, ?_, g3, g4⟩
  have hlen : ((Array.range (nc * v.cells.size)).map (fun j => v.cells[j % v.cells.size]!)).toList.length = nc * i.size := by simp [hvs]
  rw [hlen] at g2
  have := VR.slice (μ := μ') (b := h.next) 0 nl nc i.size true nc g2 hlc (Nat.le_refl _) (fun _ => rfl) (by simp)
  simpa using this
end
end LA

namespace LA
open Go hiding Loc

section
variable {P : Program} {ck : Chk} {μ : Mu} {h : AH} {w : World}

theorem pickOp_ok (r : R ck μ h w) {c a b : AV} {rc ra rb : Value} (hc : VR μ c rc) (ha : VR μ a ra) (hb : VR μ b rb) {nx : Nx} (e : pickOp c a b h = some nx) :
    VOk P ck μ h w (do pure (if ← Go.asBool rc then ra else rb)) nx := by
  obtain ⟨x, rfl, h1⟩ := asBool_some e
  have := rV_some h1; subst this
  cases hc
  cases x
  · exact gives_pure r (by simp [Go.asBool]) hb
  · exact gives_pure r (by simp [Go.asBool]) ha

theorem extract_ok (r : R ck μ h w) {t : AV} {rt : Value} (ht : VR μ t rt) {i : Nat} {nx : Nx} (e : (asTup t fun vs => rO h (lget vs i)) = some nx) : VOk P ck μ h w (Instr.extract rt i) nx := by
  obtain ⟨vs, rfl, h1⟩ := asTup_some e
  obtain ⟨v, h2, rfl⟩ := rO_some h1
  rw [lget_eq] at h2
  cases ht with
  | tup hs =>
    obtain ⟨rv, g1, g2⟩ := hs.get h2
    exact gives_pure r (by simp [Instr.extract, g1]) g2

theorem fieldOff_some {E : Env} (ok : EnvOk P E) {β : Type} {t : TypeId} {f : Nat} {K : Nat → TypeId → Option β} {r : β} (h : fieldOff E t f K = some r) :
    ∃ (q : Array Field) (fd : Field), P.underlying t = some (.struct q) ∧ q[f]? = some fd ∧ K fd.offset fd.type = some r := by
  unfold fieldOff at h
  cases e : tyk E t with
  | struct fs =>
    rw [e] at h
    obtain ⟨q, h1, h2⟩ := und_struct ok e
    obtain ⟨p, h3, h4⟩ := ob_some h
    rw [lget_eq, h2, List.getElem?_map, Array.getElem?_toList] at h3
    cases e2 : q[f]? with
    | none => rw [e2] at h3; cases h3
    | some fd =>
      rw [e2] at h3
      injection h3 with h3
      subst h3
      exact ⟨q, fd, h1, e2, h4⟩
  | _ => rw [e] at h; cases h

theorem fieldAd_ok {E : Env} (ok : EnvOk P E) (r : R ck μ h w) {t : TypeId} {x : AV} {rx : Value} (hx : VR μ x rx) {f : Nat} {nx : Nx} (e : fieldAd E t x f h = some nx) : VOk P ck μ h w (Instr.fieldAt t rx f) nx := by
  obtain ⟨b, o, rfl, h1⟩ := asPtr_some e
  obtain ⟨q, fd, g1, g2, g3⟩ := fieldOff_some ok h1
  obtain ⟨i, g4, g5⟩ := ob_some g3
  obtain ⟨g6, g7⟩ := bo_some g5
  have g6 := Nat.le_of_ble_eq_true g6
  rw [fN_eq] at g7
  have := rV_some g7; subst this
  cases hx with
  | @ptr _ L _ hL =>
    have hz : (Go.sizeOf fd.type).run P w = .ok i.size w := (ti_some ok g4).size_run w
    have hne : ¬ i.size = 0 := by omega
    refine gives_pure r (rv := .pointer (some ⟨L.rb, L.off + o + fd.offset, none⟩)) ?_ ?_
    · simp [Instr.fieldAt, run_underlying g1, g2, Instr.sureAddr, fieldPlace, hz, hne, Addr.add_eq]
    · have := VR.ptr (μ := μ) (o + fd.offset) hL
      rw [← Nat.add_assoc] at this
      exact this

theorem rowGet_ok {i : TI} {t : TypeId} (hi : TIr P t i) {cs : List AV} {rcs : Array Value} (hc : VRs μ cs rcs.toList) {o : Nat} {v : AV} (hv : rowGet i cs o = some v) : ∃ rv, (part t rcs o).run P w = .ok rv w ∧ VR μ v rv := by
  obtain ⟨q, d, q1, q2, q3, q4, q5, q6, q7⟩ := hi.info
  unfold rowGet at hv
  cases ha : i.agg with
  | true =>
    rw [ha] at hv
    obtain ⟨l, h1, h2⟩ := ob_some hv
    cases h2
    obtain ⟨h3, h4⟩ := ltake_some _ _ _ h1
    rw [ldrop_eq] at h3 h4
    have hd := (hc.drop o).take i.size
    refine ⟨.agg ⟨(rcs.toList.drop o).take i.size⟩, ?_, h3 ▸ VR.agg hd⟩
    have he : rcs.extract o (o + i.size) = ⟨(rcs.toList.drop o).take i.size⟩ := Array.ext' (by simp [Array.toList_extract, List.extract])
    simp [part, hi.agg_run, ha, hi.size_run, he]
  | false =>
    rw [ha] at hv
    have hv : lget cs o = some v := hv
    rw [lget_eq] at hv
    obtain ⟨rv, g1, g2⟩ := hc.get hv
    refine ⟨rv, ?_, g2⟩
    rw [Array.getElem?_toList] at g1
    simp [part, hi.agg_run, ha, g1]

theorem fieldV_ok {E : Env} (ok : EnvOk P E) (r : R ck μ h w) {t : TypeId} {x : AV} {rx : Value} (hx : VR μ x rx) {f : Nat} {nx : Nx} (e : fieldV E t x f h = some nx) : VOk P ck μ h w (Instr.field t rx f) nx := by
  obtain ⟨cs, rfl, h1⟩ := asAgg_some e
  obtain ⟨q, fd, g1, g2, g3⟩ := fieldOff_some ok h1
  obtain ⟨i, g4, g5⟩ := ob_some g3
  obtain ⟨v, g6, rfl⟩ := rO_some g5
  cases hx with
  | agg hc =>
    obtain ⟨rv, k1, k2⟩ := rowGet_ok (P := P) (w := w) (ti_some ok g4) (rcs := ⟨_⟩) hc g6
    exact gives_pure r (by simp [Instr.field, run_underlying g1, g2, Go.asAgg, k1]) k2

theorem indexAd_ok {E : Env} (ok : EnvOk P E) (r : R ck μ h w) {t : TypeId} {x i : AV} {rx ri : Value} (hx : VR μ x rx) (hi : VR μ i ri) {nx : Nx} (e : indexAd E t x i h = some nx) : VOk P ck μ h w (Instr.indexAt t rx ri) nx := by
  obtain ⟨k, n, rfl, h1⟩ := asNat_some e
  cases hi
  cases ht : tyk E t with
  | slice el =>
    rw [ht] at h1
    obtain ⟨q, h2, h3⟩ := ob_some h1
    have hu := und_slice ok ht
    have hz := (ti_some ok h2).size_run w
    cases hx with
    | @slice _ L o len cap sz ex rcap hL =>
      obtain ⟨h4, h5⟩ := bo_some h3
      have h4 := (Bool.and_eq_true _ _).mp h4
      have hq : q.size = sz := Nat.eq_of_beq_eq_true h4.1
      have hn : n < len := Nat.le_of_ble_eq_true h4.2
      rw [fN_eq] at h5
      have := rV_some h5; subst this
      refine gives_pure r (rv := .pointer (some ⟨L.rb, L.off + o + n * sz, none⟩)) ?_ ?_
      · simp [Instr.indexAt, Go.asIntOf, run_underlying hu, hz, Addr.add_eq, hn, hq]
      · have := VR.ptr (μ := μ) (o + n * sz) hL
        rw [← Nat.add_assoc] at this
        exact this
    | sliceE o sz ex a hL =>
      obtain ⟨h4, h5⟩ := bo_some h3
      have h4 := (Bool.and_eq_true _ _).mp h4
      exact absurd (show n < 0 from Nat.le_of_ble_eq_true h4.2) (Nat.not_lt_zero n)
    | _ => cases h3
  | array m el =>
    rw [ht] at h1
    obtain ⟨q, h2, h3⟩ := ob_some h1
    have hu := und_array ok ht
    have hz := (ti_some ok h2).size_run w
    obtain ⟨b, o, rfl, h4⟩ := asPtr_some h3
    obtain ⟨h5, h6⟩ := bo_some h4
    have hn : n < m := Nat.le_of_ble_eq_true h5
    rw [fN_eq] at h6
    have := rV_some h6; subst this
    cases hx with
    | @ptr _ L _ hL =>
      refine gives_pure r (rv := .pointer (some ⟨L.rb, L.off + o + n * q.size, none⟩)) ?_ ?_
      · simp [Instr.indexAt, Go.asIntOf, run_underlying hu, hz, Addr.add_eq, hn, Instr.sureAddr]
      · have := VR.ptr (μ := μ) (o + n * q.size) hL
        rw [← Nat.add_assoc] at this
        exact this
  | _ => rw [ht] at h1; cases h1

theorem isStrK_some {E : Env} {t : TypeId} (e : isStrK (tyk E t) = true) : tyk E t = .string := by
  generalize tyk E t = k at e
  cases k <;> first | rfl | cases e

theorem indexStr_ok {E : Env} (ok : EnvOk P E) (r : R ck μ h w) {t : TypeId} {x i : AV} {rx ri : Value} (hx : VR μ x rx) (hi : VR μ i ri) {nx : Nx} (e : bo (isStrK (tyk E t)) (indexStr x i h) = some nx) : VOk P ck μ h w (Instr.index t rx ri) nx := by
  obtain ⟨h0, h00⟩ := bo_some e
  have hu := und_string ok (isStrK_some h0)
  obtain ⟨k, n, rfl, h1⟩ := asNat_some h00
  obtain ⟨s, rfl, h2⟩ := asStr_some h1
  obtain ⟨c, h3, h4⟩ := ob_some h2
  have := rV_some h4; subst this
  rw [lget_eq] at h3
  cases hi
  cases hx with
  | str bs =>
    rw [List.getElem?_map] at h3
    cases e2 : bs.data.toList[n]? with
    | none => rw [e2] at h3; cases h3
    | some b =>
      rw [e2] at h3
      injection h3 with h3
      subst h3
      have h5 : bs[n]? = some b := by
        rw [Array.getElem?_toList, Array.getElem?_eq_some_iff] at e2
        obtain ⟨hlt, e2⟩ := e2
        exact (Go.ByteArray.getElem?_lt' bs n hlt).trans (congrArg some e2)
      exact gives_pure r (by simp [Instr.index, Go.asIntOf, run_underlying hu, h5]) (.int _ _)

theorem optNat_some {β : Type} {x : Option AV} {d : Nat} {K : Nat → Option β} {r : β} (e : optNat x d K = some r) : ∃ n, (x = none ∧ n = d ∨ ∃ k, x = some (.int k (Int.ofNat n))) ∧ K n = some r := by
  cases x with
  | none => exact ⟨d, .inl ⟨rfl, rfl⟩, e⟩
  | some v =>
    obtain ⟨k, n, rfl, h1⟩ := asNat_some e
    exact ⟨n, .inr ⟨k, rfl⟩, h1⟩

/-- an optional number -/
def OV (μ : Mu) : Option AV → Option Value → Prop
  | none, none => True
  | some v, some rv => VR μ v rv
  | _, _ => False

theorem OV.int {x : Option AV} {rx : Option Value} (o : OV μ x rx) {d n : Nat} (e : x = none ∧ n = d ∨ ∃ k, x = some (.int k (Int.ofNat n))) : (x = none ∧ rx = none ∧ n = d) ∨ ∃ k, x = some (.int k (Int.ofNat n)) ∧ rx = some (.int k (Int.ofNat n)) := by
  rcases e with ⟨rfl, rfl⟩ | ⟨k, rfl⟩
  · cases rx with
    | none => exact .inl ⟨rfl, rfl, rfl⟩
    | some v => exact o.elim
  · cases rx with
    | none => exact o.elim
    | some v => cases o; exact .inr ⟨k, rfl, rfl⟩

theorem run_bound (k : IntKind) {n y : Nat} (code : BoundsCode) (hn : n ≤ y) : (Instr.sliceBound (.int k (n : Int)) y code).run P w = .ok n w := by
  rw [run_sliceBound (h0 := Int.natCast_nonneg n) (h1 := Int.ofNat_le.mpr hn)]
  rfl

/-- the three bounds, when they are in order; 'rcap' is the real capacity -/
theorem run_bounds {lo hi mx : Option AV} {rlo rhi rmx : Option Value} (o1 : OV μ lo rlo) (o2 : OV μ hi rhi) (o3 : OV μ mx rmx) {isS : Bool} {len cap rcap l hh m : Nat} (hcap : cap ≤ rcap)
    (e1 : lo = none ∧ l = 0 ∨ ∃ k, lo = some (.int k (Int.ofNat l))) (e2 : hi = none ∧ hh = len ∨ ∃ k, hi = some (.int k (Int.ofNat hh))) (e3 : mx = none ∧ m = cap ∨ ∃ k, mx = some (.int k (Int.ofNat m)))
    (h1 : l ≤ hh) (h2 : hh ≤ m) (h3 : m ≤ cap) (h4 : mx = none ∨ hi ≠ none) :
    (Instr.sliceBounds isS len rcap rlo rhi rmx).run P w = .ok (l, hh, if mx = none then rcap else m) w := by
  have e1 := o1.int e1
  have e2 := o2.int e2
  have e3 := o3.int e3
  unfold Instr.sliceBounds
  rcases e3 with ⟨rfl, rfl, rfl⟩ | ⟨k3, rfl, rfl⟩
  · rcases e2 with ⟨rfl, rfl, rfl⟩ | ⟨k2, rfl, rfl⟩
    · rcases e1 with ⟨rfl, rfl, rfl⟩ | ⟨k1, rfl, rfl⟩
      · simp
      · simp [run_bound (P := P) (w := w) k1 _ h1]
    · rcases e1 with ⟨rfl, rfl, rfl⟩ | ⟨k1, rfl, rfl⟩
      · simp [run_bound (P := P) (w := w) k2 _ (Nat.le_trans h2 hcap)]
      · simp [run_bound (P := P) (w := w) k2 _ (Nat.le_trans h2 hcap), run_bound (P := P) (w := w) k1 _ h1]
  · rcases e2 with ⟨rfl, rfl, rfl⟩ | ⟨k2, rfl, rfl⟩
    · rcases h4 with h4 | h4
      · cases h4
      · exact absurd rfl h4
    · rcases e1 with ⟨rfl, rfl, rfl⟩ | ⟨k1, rfl, rfl⟩
      · simp [run_bound (P := P) (w := w) k2 _ h2, run_bound (P := P) (w := w) k3 _ (Nat.le_trans h3 hcap)]
      · simp [run_bound (P := P) (w := w) k2 _ h2, run_bound (P := P) (w := w) k3 _ (Nat.le_trans h3 hcap), run_bound (P := P) (w := w) k1 _ h1]
end
end LA

namespace LA
open Go hiding Loc

section
variable {P : Program} {ck : Chk} {μ : Mu} {h : AH} {w : World}

theorem ckSlice_some {β : Type} {l hh m cap : Nat} {x : Option β} {r : β} (e : ckSlice l hh m cap x = some r) : l ≤ hh ∧ hh ≤ m ∧ m ≤ cap ∧ x = some r := by
  obtain ⟨h1, h2⟩ := bo_some e
  have h1 := (Bool.and_eq_true _ _).mp h1
  have h3 := (Bool.and_eq_true _ _).mp h1.2
  exact ⟨Nat.le_of_ble_eq_true h1.1, Nat.le_of_ble_eq_true h3.1, Nat.le_of_ble_eq_true h3.2, h2⟩

theorem sureM_hi {hi mx : Option AV} (e : sureM hi mx = true) : mx = none ∨ hi ≠ none := by
  cases mx with
  | none => exact .inl rfl
  | some v => cases hi with
    | none => cases e
    | some v => exact .inr (by simp)

theorem data_take (s : ByteArray) (l n : Nat) (_hl : l ≤ n) (_hn : n ≤ s.size) : (s.extract l n).data.toList.map (·.toNat) = ((s.data.toList.map (·.toNat)).drop l).take (n - l) := by
  rw [ByteArray.data_extract, Array.toList_extract, List.extract_eq_take_drop, ← List.map_drop, ← List.map_take]

theorem sliceSl_ok {b o len cap sz : Nat} {ex : Bool} {lo hi mx : Option AV} {v : AV} (e : sliceSl b o len cap sz ex lo hi mx = some v) {L : Loc} (hL : μ b = some L) {rcap : Nat} (k1 : len ≤ cap) (k2 : cap ≤ rcap) (k3 : ex = true → rcap = cap) (k4 : L.off + o + rcap * sz ≤ L.size)
    {rlo rhi rmx : Option Value} (o1 : OV μ lo rlo) (o2 : OV μ hi rhi) (o3 : OV μ mx rmx) (isS : Bool) :
    ∃ l hh m, (Instr.sliceBounds isS len rcap rlo rhi rmx).run P w = .ok (l, hh, m) w ∧ VR μ v (.slice (some (if m = l then ⟨L.rb, L.off + o, none⟩ else ⟨L.rb, L.off + o + l * sz, none⟩)) (hh - l) (m - l)) := by
  obtain ⟨l, e1, h1⟩ := optNat_some e
  obtain ⟨hh, e2, h2⟩ := optNat_some h1
  obtain ⟨m, e3, h3⟩ := optNat_some h2
  obtain ⟨g1, g2, g3, h4⟩ := ckSlice_some h3
  obtain ⟨h5, h6⟩ := bo_some h4
  rw [fN_eq, fN_eq, fN_eq] at h6
  refine ⟨l, hh, _, run_bounds o1 o2 o3 k2 e1 e2 e3 g1 g2 g3 (sureM_hi h5), ?_⟩
  cases mx with
  | none =>
    rw [if_pos rfl]
    have hm : m = cap := by
      rcases e3 with ⟨_, h⟩ | ⟨k, h⟩
      · exact h
      · cases h
    subst hm
    have h6 : AV.slice b (Bool.rec (Nat.add o (Nat.mul l sz)) (Bool.rec (Nat.add o (Nat.mul l sz)) o ex) (Nat.beq m l)) (hh - l) (m - l) sz ex = v := by injection h6
    by_cases hml : m = l
    · subst hml
      rw [Nat.beq_refl] at h6
      have hh0 : hh - m = 0 := by omega
      rw [hh0, Nat.sub_self] at h6
      rw [hh0]
      by_cases hr : rcap = m
      · rw [if_pos hr, hr, Nat.sub_self, ← h6]
        exact VR.sliceE _ sz ex _ hL
      · have hex : ex = false := by
          cases ex with
          | false => rfl
          | true => exact absurd (k3 rfl) hr
        subst hex
        rw [if_neg hr, ← h6, Nat.add_assoc]
        refine VR.slice (μ := μ) (o + m * sz) 0 0 sz false (rcap - m) hL (Nat.le_refl _) (Nat.zero_le _) (fun h => by cases h) ?_
        have : (rcap - m) * sz + m * sz = rcap * sz := by rw [← Nat.add_mul, Nat.sub_add_cancel (by omega)]
        omega
    · rw [if_neg (by omega)]
      have hb : Nat.beq m l = false := by
        cases e : Nat.beq m l with
        | false => rfl
        | true => exact absurd (Nat.eq_of_beq_eq_true e) hml
      rw [hb] at h6
      rw [← h6, Nat.add_assoc]
      refine VR.slice (μ := μ) (o + l * sz) (hh - l) (m - l) sz ex (rcap - l) hL (by omega) (by omega) (fun h => by rw [k3 h]) ?_
      have : (rcap - l) * sz + l * sz = rcap * sz := by rw [← Nat.add_mul, Nat.sub_add_cancel (by omega)]
      omega
  | some mv =>
    have hne : (if (some mv : Option AV) = none then rcap else m) = m := if_neg (by simp)
    rw [hne]
    have h6 : AV.slice b (Bool.rec (Nat.add o (Nat.mul l sz)) o (Nat.beq m l)) (hh - l) (m - l) sz true = v := by injection h6
    have hmr : m * sz ≤ rcap * sz := Nat.mul_le_mul_right sz (by omega)
    by_cases hml : m = l
    · subst hml
      rw [if_pos rfl]
      rw [Nat.beq_refl] at h6
      rw [← h6, Nat.sub_self]
      exact VR.slice (μ := μ) o (hh - m) 0 sz true 0 hL (by omega) (Nat.le_refl _) (fun _ => rfl) (by omega)
    · rw [if_neg hml]
      have hb : Nat.beq m l = false := by
        cases e : Nat.beq m l with
        | false => rfl
        | true => exact absurd (Nat.eq_of_beq_eq_true e) hml
      rw [hb] at h6
      rw [← h6, Nat.add_assoc]
      refine VR.slice (μ := μ) (o + l * sz) (hh - l) (m - l) sz true (m - l) hL (by omega) (Nat.le_refl _) (fun _ => rfl) ?_
      have : (m - l) * sz + l * sz = m * sz := by rw [← Nat.add_mul, Nat.sub_add_cancel (by omega)]
      omega

theorem sliceE_ok {b o sz : Nat} {ex : Bool} {lo hi mx : Option AV} {v : AV} (e : sliceSl b o 0 0 sz ex lo hi mx = some v) {L : Loc} (hL : μ b = some L) (a : Addr)
    {rlo rhi rmx : Option Value} (o1 : OV μ lo rlo) (o2 : OV μ hi rhi) (o3 : OV μ mx rmx) (isS : Bool) :
    (Instr.sliceBounds isS 0 0 rlo rhi rmx).run P w = .ok (0, 0, 0) w ∧ VR μ v (.slice (some a) 0 0) := by
  obtain ⟨l, e1, h1⟩ := optNat_some e
  obtain ⟨hh, e2, h2⟩ := optNat_some h1
  obtain ⟨m, e3, h3⟩ := optNat_some h2
  obtain ⟨g1, g2, g3, h4⟩ := ckSlice_some h3
  obtain ⟨h5, h6⟩ := bo_some h4
  rw [fN_eq, fN_eq, fN_eq] at h6
  have hm : m = 0 := by omega
  have hh0 : hh = 0 := by omega
  have hl : l = 0 := by omega
  subst hm hh0 hl
  have hb := run_bounds (P := P) (w := w) (isS := isS) o1 o2 o3 (Nat.le_refl 0) e1 e2 e3 g1 g2 g3 (sureM_hi h5)
  refine ⟨?_, ?_⟩
  · rw [hb]; split <;> rfl
  · injection h6 with h6
    rw [← h6]
    exact VR.sliceE _ sz _ a hL

theorem sliceOp_ok {E : Env} (ok : EnvOk P E) (r : R ck μ h w) {t : TypeId} {x : AV} {rx : Value} (hx : VR μ x rx) {lo hi mx : Option AV} {rlo rhi rmx : Option Value} (o1 : OV μ lo rlo) (o2 : OV μ hi rhi) (o3 : OV μ mx rmx) {v : AV}
    (e : LA.sliceOp E t x lo hi mx h = some v) : ∃ rv, (Instr.sliceAt t rx rlo rhi rmx).run P w = .ok rv w ∧ VR μ v rv := by
  unfold LA.sliceOp at e
  cases ht : tyk E t with
  | string =>
    rw [ht] at e
    have hu := und_string ok ht
    obtain ⟨s, rfl, h1⟩ := asStr_some e
    cases hx with
    | str bs =>
      obtain ⟨l, e1, h2⟩ := optNat_some h1
      obtain ⟨hh, e2, h3⟩ := optNat_some h2
      cases mx with
      | some mv => cases h3
      | none =>
        cases rmx with
        | some mv => exact o3.elim
        | none =>
          obtain ⟨h4, h5⟩ := bo_some h3
          have h4 := (Bool.and_eq_true _ _).mp h4
          obtain ⟨q, h6, h7⟩ := ob_some h5
          cases h7
          obtain ⟨h8, h9⟩ := ltake_some _ _ _ h6
          have g1 := Nat.le_of_ble_eq_true h4.1
          have g2 := Nat.le_of_ble_eq_true h4.2
          rw [llen_eq, List.length_map] at g2 e2
          have hsz : bs.data.toList.length = bs.size := rfl
          rw [hsz] at g2 e2
          have hb := run_bounds (P := P) (w := w) (isS := false) o1 o2 o3 (Nat.le_refl _) e1 e2 (.inl ⟨rfl, rfl⟩) g1 g2 (Nat.le_refl _) (.inl rfl)
          refine ⟨.string (bs.extract l hh), ?_, ?_⟩
          · simp [Instr.sliceAt, Instr.slice, run_underlying hu, hb]
          · rw [h8, ldrop_eq]
            have := VR.str (μ := μ) (bs.extract l hh)
            rw [data_take bs l hh g1 g2] at this
            exact this
  | slice el =>
    rw [ht] at e
    have hu := und_slice ok ht
    obtain ⟨i, h1, h2⟩ := ob_some e
    have hz := (ti_some ok h1).size_run w
    cases hx with
    | nils =>
      obtain ⟨l, e1, h3⟩ := optNat_some h2
      obtain ⟨hh, e2, h4⟩ := optNat_some h3
      obtain ⟨m, e3, h5⟩ := optNat_some h4
      obtain ⟨g1, g2, g3, h6⟩ := ckSlice_some h5
      obtain ⟨h7, h8⟩ := bo_some h6
      cases h8
      have hb := run_bounds (P := P) (w := w) (isS := true) o1 o2 o3 (Nat.le_refl _) e1 e2 e3 g1 g2 g3 (sureM_hi h7)
      refine ⟨.slice none 0 0, ?_, .nils⟩
      have hm : m = 0 := by omega
      have hh0 : hh = 0 := by omega
      have hl : l = 0 := by omega
      subst hm hh0 hl
      simp [Instr.sliceAt, Instr.slice, run_underlying hu, hb, hz]
    | @slice b L o len cap sz ex rcap hL k1 k2 k3 k4 =>
      obtain ⟨h3, h4⟩ := bo_some h2
      have hq : i.size = sz := Nat.eq_of_beq_eq_true h3
      obtain ⟨l, hh, m, g1, g2⟩ := sliceSl_ok (P := P) (w := w) h4 hL k1 k2 k3 k4 o1 o2 o3 true
      refine ⟨_, ?_, g2⟩
      by_cases hml : m = l
      · simp [Instr.sliceAt, Instr.slice, run_underlying hu, g1, hz, hml]
      · simp [Instr.sliceAt, Instr.slice, run_underlying hu, g1, hz, hml, hq, Addr.add_eq]
    | sliceE o sz ex a hL =>
      obtain ⟨h3, h4⟩ := bo_some h2
      obtain ⟨g1, g2⟩ := sliceE_ok (P := P) (w := w) h4 hL a o1 o2 o3 true
      exact ⟨_, by simp [Instr.sliceAt, Instr.slice, run_underlying hu, g1, hz], g2⟩
    | _ => cases h2
  | array n el =>
    rw [ht] at e
    have hu := und_array ok ht
    obtain ⟨i, h1, h2⟩ := ob_some e
    have hz := (ti_some ok h1).size_run w
    obtain ⟨b, o, rfl, h3⟩ := asPtr_some h2
    obtain ⟨cs, md, h4, h5⟩ := asRow_some h3
    obtain ⟨h6, h7⟩ := bo_some h5
    have h6 := Nat.le_of_ble_eq_true h6
    rw [llen_eq] at h6
    cases hx with
    | @ptr _ L _ hL =>
      obtain ⟨c, el', fr, _, q2, q3, _⟩ := r.rel _ _ _ h4 hL
      have h6 : o + n * i.size ≤ cs.length := h6
      obtain ⟨l, hh, m, g1, g2⟩ := sliceSl_ok (P := P) (w := w) h7 hL (Nat.le_refl _) (Nat.le_refl _) (fun _ => rfl) (by omega) o1 o2 o3 false
      refine ⟨_, ?_, g2⟩
      by_cases hml : m = l
      · simp [Instr.sliceAt, run_underlying hu, g1, hz, hml, Instr.sureAddr]
      · simp [Instr.sliceAt, run_underlying hu, g1, hz, hml, Addr.add_eq, Instr.sureAddr]
  | _ => rw [ht] at e; cases e
end
end LA

namespace LA
open Go hiding Loc

section
variable {P : Program} {ck : Chk} {μ : Mu} {h : AH} {w : World}

theorem MRs.length : ∀ {es : List (AV × AV × Nat)} {res : List MapEntry}, MRs μ es res → res.length = es.length
  | _, _, .nil => rfl
  | _, _, .cons _ _ c => congrArg (· + 1) c.length
theorem MRs.append : ∀ {es es' : List (AV × AV × Nat)} {res res' : List MapEntry}, MRs μ es res → MRs μ es' res' → MRs μ (es ++ es') (res ++ res')
  | _, _, _, _, .nil, k => k
  | _, _, _, _, .cons a b c, k => .cons a b (c.append k)
theorem MRs.erase : ∀ {es : List (AV × AV × Nat)} {res : List MapEntry}, MRs μ es res → ∀ i, MRs μ (es.eraseIdx i) (res.eraseIdx i)
  | _, _, .nil, _ => .nil
  | _, _, .cons _ _ c, 0 => c
  | _, _, .cons a b c, i + 1 => .cons a b (c.erase i)
theorem MRs.get : ∀ {es : List (AV × AV × Nat)} {res : List MapEntry}, MRs μ es res → ∀ {i : Nat} {e : AV × AV × Nat}, es[i]? = some e → ∃ re : MapEntry, res[i]? = some re ∧ VR μ e.1 re.key ∧ VR μ e.2.1 re.val ∧ re.born = e.2.2
  | _, _, .nil, _, _, h => by cases h
  | _, _, .cons a b _, 0, _, h => by cases h; exact ⟨_, rfl, a, b, rfl⟩
  | _, _, .cons _ _ c, i + 1, _, h => c.get (by simpa using h)
theorem MRs.set {e : AV × AV × Nat} {re : MapEntry} (h1 : VR μ e.1 re.key) (h2 : VR μ e.2.1 re.val) (h3 : re.born = e.2.2) : ∀ {es : List (AV × AV × Nat)} {res : List MapEntry}, MRs μ es res → ∀ i, MRs μ (es.set i e) (res.set i re)
  | _, _, .nil, _ => .nil
  | _, _, .cons _ _ c, 0 => by
    obtain ⟨k, v, n⟩ := e
    obtain ⟨rk, rv, rn⟩ := re
    dsimp only at h1 h2 h3
    subst h3
    exact .cons h1 h2 c
  | _, _, .cons a b c, i + 1 => .cons a b (c.set h1 h2 h3 i)

theorem run_getObj' {rb : Nat} {o : Obj} (hb : w.heap[rb]? = some o) (hc : ∀ c e f, o ≠ .cells c e f) : (getObj rb).run P w = .ok o w := by
  cases o <;> first | exact absurd rfl (hc _ _ _) | simp [getObj, Sem.run, hb]
theorem run_setObj' {rb : Nat} {o : Obj} (o' : Obj) (hb : w.heap[rb]? = some o) (hc : ∀ c e f, o ≠ .cells c e f) : (setObj rb o').run P w = .ok () (w.putObj rb o') := by
  cases o <;> first | exact absurd rfl (hc _ _ _) | simp [setObj, Sem.run, hb, World.putObj]

theorem ba_eq {p q : ByteArray} (h : true = (p == q)) : p = q := by
  have h : (p.data == q.data) = true := h.symm
  exact ByteArray.ext (eq_of_beq h)

/-- a new state of a block that is no row -/
theorem R.setBlk (r : R ck μ h w) {b : Nat} {blk blk' : AB} {L : Loc} (hb : T.get h.t b = some blk) (hL : μ b = some L) (hw : ∀ cs m, blk ≠ .row cs m) (hw' : ∀ cs m, blk' ≠ .row cs m) {o o' : Obj} (ho : w.heap[L.rb]? = some o)
    (hl : ∀ q, o = .loop q → ∃ q', o' = .loop q') (hB : BR ck μ (w.putObj L.rb o') L blk') :
    R ck μ ⟨h.next, T.set h.t b blk'⟩ (w.putObj L.rb o') ∧ Ext μ h w μ ⟨h.next, T.set h.t b blk'⟩ (w.putObj L.rb o') := by
  have hlt := (r.dom b L hL).2
  refine r.update hb hL ?_ ?_ rfl (T.get_set_same _ _ _) ?_ ?_ ?_ (by simp) (fun rb hrb => World.putObj_heap_other hrb) hB ?_ ⟨rfl, rfl, rfl⟩
  · cases blk with
    | row cs m => exact absurd rfl (hw cs m)
    | _ => rfl
  · cases blk' with
    | row cs m => exact absurd rfl (hw' cs m)
    | _ => trivial
  · intro x hx
    refine .inr ⟨T.get_set_ne _ _ hx, ?_⟩
    cases blk with
    | row cs m => exact absurd rfl (hw cs m)
    | _ => trivial
  · intro x hx
    have hxb : x ≠ b := fun e => by rw [e, hL] at hx; cases hx
    exact T.get_set_ne _ _ hxb
  · intro x hx _
    cases blk' with
    | row cs m => exact absurd rfl (hw' cs m)
    | _ => trivial
  · intro q hq
    rw [ho] at hq
    obtain ⟨q', e⟩ := hl q (by injection hq)
    subst e
    exact ⟨q', World.putObj_heap_same hlt⟩

/-- a new state of a map that is there -/
theorem R.setMap (r : R ck μ h w) {b : Nat} {es : List (AV × AV × Nat)} {c : Nat} {L : Loc} (hb : T.get h.t b = some (.map es c)) (hL : μ b = some L)
    {es' : List (AV × AV × Nat)} {c' : Nat} {res' : Array MapEntry} (hm : MRs μ es' res'.toList) (hc : ∀ e ∈ es', e.2.2 < c') :
    R ck μ ⟨h.next, T.set h.t b (.map es' c')⟩ (w.putObj L.rb (.map res' c')) ∧ Ext μ h w μ ⟨h.next, T.set h.t b (.map es' c')⟩ (w.putObj L.rb (.map res' c')) := by
  obtain ⟨res, g1, g2, g3⟩ := r.rel b _ L hb hL
  exact r.setBlk hb hL (fun _ _ e => by cases e) (fun _ _ e => by cases e) g1 (fun q e => by cases e) ⟨res', World.putObj_heap_same (r.dom b L hL).2, hm, hc⟩

/-! ## the keys that are found are the keys that were asked for -/
theorem eqS_same {x y : AV} (e : eqS x y = some true) {rx ry : Value} (hx : VR μ x rx) (hy : VR μ y ry) : ry = rx := by
  cases x with
  | bool a => obtain ⟨p, q, rfl, rfl, h⟩ := eqBool_ok e hx hy; rw [eq_of_beq h.symm]
  | int k a => obtain ⟨k, p, q, rfl, rfl, h⟩ := eqInt_ok e hx hy; rw [eq_of_beq h.symm]
  | str a => obtain ⟨p, q, rfl, rfl, h⟩ := eqStr_ok e hx hy; rw [ba_eq h]
  | _ => cases e

theorem eqAll_same : ∀ {xs ys : List AV} {rxs rys : List Value}, eqAll eqS xs ys = some true → VRs μ xs rxs → VRs μ ys rys → rys = rxs
  | [], [], _, _, _, .nil, .nil => rfl
  | [], _ :: _, _, _, e, _, _ => by cases e
  | _ :: _, [], _, _, e, _, _ => by cases e
  | x :: xs, y :: ys, _, _, e, .cons a b, .cons c d => by
    obtain ⟨r, h1, h2⟩ := ob_some (show ob (eqS x y) (fun b => Bool.rec (some false) (eqAll eqS xs ys) b) = some true from e)
    cases r with
    | false => cases h2
    | true => rw [eqS_same h1 a c, eqAll_same h2 b d]

theorem eqT_same {E : Env} {kt : TypeId} {x y : AV} (hk : keyOk E kt x = true) (e : eqT E false kt x y = some true) {rx ry : Value} (hx : VR μ x rx) (hy : VR μ y ry) : ry = rx := by
  obtain ⟨i, h1, h2⟩ := ob_some e
  unfold keyOk at hk
  rw [h1] at hk
  dsimp only at hk
  cases hi : i.k with
  | int k =>
    rw [hi] at h2
    obtain ⟨k, p, q, rfl, rfl, h⟩ := eqInt_ok h2 hx hy
    rw [eq_of_beq h.symm]
  | string =>
    rw [hi] at h2
    obtain ⟨p, q, rfl, rfl, h⟩ := eqStr_ok h2 hx hy
    rw [ba_eq h]
  | struct fs =>
    rw [hi] at h2
    obtain ⟨a, rfl, h3⟩ := asAgg_some h2
    obtain ⟨b, rfl, h4⟩ := asAgg_some h3
    obtain ⟨_, h5⟩ := bo_some h4
    cases hx with
    | agg c => cases hy with
      | agg d => rw [eqAll_same h5 c d]
  | _ => rw [hi] at hk; cases hk

theorem mapFind_key {E : Env} {kt : TypeId} {k : AV} : ∀ {es : List (AV × AV × Nat)} {i j : Nat} {p : AV × Nat}, mapFind E kt k es i = some (some (j, p)) → i ≤ j ∧ ∃ k', es[j - i]? = some (k', p) ∧ eqT E false kt k k' = some true
  | [], _, _, _, e => by cases e
  | (k1, p1) :: es, i, j, p, e => by
    rw [mapFind_cons] at e
    obtain ⟨b, h1, h2⟩ := ob_some e
    cases b with
    | true =>
      cases h2
      exact ⟨Nat.le_refl _, k1, by simp, h1⟩
    | false =>
      obtain ⟨g1, k', g2, g3⟩ := mapFind_key h2
      refine ⟨by omega, k', ?_, g3⟩
      have : j - i = (j - (i + 1)) + 1 := by omega
      rw [this, List.getElem?_cons_succ]; exact g2

/-- what a look into a map tells -/
inductive LookR (μ : Mu) (k : AV) (rk : Value) (es : List (AV × AV × Nat)) (res : List MapEntry) : Option (Nat × AV × Nat) → Option (Nat × Value) → Prop
  | none : LookR μ k rk es res none none
  | some {i : Nat} {v : AV} {rv : Value} {n : Nat} (k' : AV) (h1 : es[i]? = some (k', v, n)) (h2 : res[i]? = some ⟨rk, rv, n⟩) (h3 : VR μ v rv) : LookR μ k rk es res (some (i, v, n)) (some (i, rv))

theorem mapLook_ok {E : Env} (ok : EnvOk P E) {kt : TypeId} {k : AV} {rk : Value} (hk : VR μ k rk) {es : List (AV × AV × Nat)} {res : Array MapEntry} (hm : MRs μ es res.toList) {β : Type} {K : Option (Nat × AV × Nat) → Option β} {r : β} (e : mapLook E kt k es K = some r) :
    KeyR P kt rk ∧ ∃ x q, (∀ w : World, (Instr.findKey kt rk res.toList).run P w = .ok q w) ∧ LookR μ k rk es res.toList x q ∧ K x = some r := by
  obtain ⟨h1, h2⟩ := bo_some e
  obtain ⟨x, h3, h4⟩ := ob_some h2
  have kr := keyOk_ok ok h1 hk
  refine ⟨kr, x, ?_⟩
  obtain ⟨q, g1, g2⟩ := findKey_ok (w := default) ok hk kr hm h3
  have hall : ∀ w : World, (Instr.findKey kt rk res.toList).run P w = .ok q w := by
    intro w
    obtain ⟨q', g1', g2'⟩ := findKey_ok (w := w) ok hk kr hm h3
    have : q' = q := by
      cases g2' with
      | none => cases g2; rfl
      | some k1 rk1 a0 a1 a2 a3 a4 => cases g2 with
        | some k2 rk2 b0 b1 b2 b3 b4 =>
          rw [a2] at b2
          injection b2 with b2
          injection b2 with b2 b3 b4
          rw [b3]
    rw [← this]; exact g1'
  refine ⟨q, hall, ?_, h4⟩
  cases g2 with
  | none => exact .none
  | some k1 rk1 a0 a1 a2 a3 a4 =>
    obtain ⟨_, k', c1, c2⟩ := mapFind_key h3
    rw [Nat.sub_zero] at a1 a2 c1
    rw [a1] at c1
    cases c1
    have := eqT_same h1 c2 hk a4
    subst this
    exact .some k1 a1 a2 a3
end
end LA

namespace LA
open Go hiding Loc

section
variable {P : Program} {ck : Chk} {μ : Mu} {h : AH} {w : World}

theorem map_nc {res : Array MapEntry} {c : Nat} : ∀ a e f, Obj.map res c ≠ .cells a e f := fun _ _ _ e => by cases e

theorem asMap_real (r : R ck μ h w) {b : Nat} {es : List (AV × AV × Nat)} {c : Nat} (hb : T.get h.t b = some (.map es c)) {L : Loc} (hL : μ b = some L) :
    ∃ res : Array MapEntry, w.heap[L.rb]? = some (.map res c) ∧ MRs μ es res.toList ∧ (∀ e ∈ es, e.2.2 < c) ∧ (getObj L.rb).run P w = .ok (.map res c) w := by
  obtain ⟨res, g1, g2, g3⟩ := r.rel b _ L hb hL
  exact ⟨res, g1, g2, g3, run_getObj' g1 map_nc⟩

theorem lookupOp_ok {E : Env} (ok : EnvOk P E) (r : R ck μ h w) {t : TypeId} {x k : AV} {rx rk : Value} (hx : VR μ x rx) (hk : VR μ k rk) {cok : Bool} {nx : Nx} (e : lookupOp E t x k cok h = some nx) : VOk P ck μ h w (Instr.lookup t rx rk cok) nx := by
  obtain ⟨kt, el, h1, h2⟩ := asMapT_some e
  have hu := und_map ok h1
  obtain ⟨es, h3, h4⟩ := ob_some h2
  have hes : ∃ res : Array MapEntry, MRs μ es res.toList ∧ (rx = .map none ∧ res = #[] ∨ ∃ rb c, rx = .map (some rb) ∧ (getObj rb).run P w = .ok (.map res c) w) := by
    unfold mapOf at h3
    cases hx with
    | nilm => cases h3; exact ⟨#[], .nil, .inl ⟨rfl, rfl⟩⟩
    | @map b L hL =>
      obtain ⟨es', c, g1, g2⟩ := asMap_some h3
      cases g2
      obtain ⟨res, k1, k2, k3, k4⟩ := asMap_real (P := P) r g1 hL
      exact ⟨res, k2, .inr ⟨_, _, rfl, k4⟩⟩
    | _ => cases h3
  obtain ⟨res, m1, m2⟩ := hes
  obtain ⟨kr, x0, q, g1, g2, g3⟩ := mapLook_ok ok hk m1 h4
  unfold Instr.lookup
  cases g2 with
  | none =>
    obtain ⟨i, h5, h6⟩ := ob_some g3
    obtain ⟨z, h7, h8⟩ := ob_some h6
    have := rV_some h8; subst this
    obtain ⟨v, z1, z2⟩ := (ti_some ok h5).zero_run h7 w
    have hz := z2 ▸ conv_vr μ v
    refine gives_pure r (rv := if cok then .tuple #[v, .bool false] else v) ?_ ?_
    · rcases m2 with ⟨rfl, rfl⟩ | ⟨rb, c, rfl, m2⟩
      · simp only [Sem.run_bind, run_underlying hu, Result.andThen_ok, kr.check, g1, z1, Sem.run_pure]
      · simp only [Sem.run_bind, run_underlying hu, Result.andThen_ok, m2, kr.check, g1, z1, Sem.run_pure]
    · cases cok
      · exact hz
      · exact .tup (.cons hz (.cons (.bool _) .nil))
  | @some i v rv n k' a1 a2 a3 =>
    have := rV_some g3; subst this
    refine gives_pure r (rv := if cok then .tuple #[rv, .bool true] else rv) ?_ ?_
    · rcases m2 with ⟨rfl, rfl⟩ | ⟨rb, c, rfl, m2⟩
      · simp only [Sem.run_bind, run_underlying hu, Result.andThen_ok, kr.check, g1, Sem.run_pure]
      · simp only [Sem.run_bind, run_underlying hu, Result.andThen_ok, m2, kr.check, g1, Sem.run_pure]
    · cases cok
      · exact a3
      · exact .tup (.cons a3 (.cons (.bool _) .nil))

theorem modify_eq {res : Array MapEntry} {i : Nat} {re : MapEntry} (h : res.toList[i]? = some re) (f : MapEntry → MapEntry) : (res.modify i f).toList = res.toList.set i (f re) := by
  rw [Array.toList_modify]
  apply List.ext_getElem?
  intro j
  rw [List.getElem?_modify, List.getElem?_set]
  by_cases hj : i = j
  · subst hj
    obtain ⟨hl, he⟩ := List.getElem?_eq_some_iff.1 h
    rw [if_pos rfl, if_pos hl, h]
    simp
  · simp [hj]

theorem putObj_self {rb : Nat} {o : Obj} (h : w.heap[rb]? = some o) : w.putObj rb o = w := by
  have : w.heap.setIfInBounds rb o = w.heap := by
    apply Array.ext_getElem?
    intro j
    rw [Array.getElem?_setIfInBounds]
    by_cases hj : rb = j
    · subst hj
      obtain ⟨hl, _⟩ := Array.getElem?_eq_some_iff.1 h
      rw [if_pos rfl, if_pos hl, h]
    · rw [if_neg hj]
  unfold World.putObj
  rw [this]

theorem undefU {μ' : Mu} : VR μ' LA.undef Go.undef := .tup .nil

theorem mem_set_lt {es : List (AV × AV × Nat)} {c : Nat} (hc : ∀ e ∈ es, e.2.2 < c) {i : Nat} {k' v : AV} {n : Nat} (h1 : es[i]? = some (k', v, n)) (k v' : AV) : ∀ e ∈ es.set i (k, v', n), e.2.2 < c := by
  intro e he
  rcases List.mem_or_eq_of_mem_set he with h | h
  · exact hc e h
  · subst h
    exact hc (k', v, n) (List.mem_of_getElem? h1)

theorem mapUpd_ok {E : Env} (ok : EnvOk P E) (r : R ck μ h w) {t : TypeId} {m k x : AV} {rm rk rx : Value} (hm : VR μ m rm) (hk : VR μ k rk) (hx : VR μ x rx) {nx : Nx} (e : mapUpd E t m k x h = some nx) :
    ∃ h', nx = .val LA.undef h' ∧ GivesU P ck μ h w (Instr.mapUpdate t rm rk rx) h' := by
  obtain ⟨kt, el, h1, h2⟩ := asMapT_some e
  have hu := und_map ok h1
  obtain ⟨b, rfl, h3⟩ := asMapV_some h2
  obtain ⟨es, c, h4, h5⟩ := asMap_some h3
  cases hm with
  | @map _ L hL =>
    obtain ⟨res, g1, g2, g3, g4⟩ := asMap_real (P := P) r h4 hL
    obtain ⟨kr, x0, q, k1, k2, k3⟩ := mapLook_ok ok hk g2 h5
    cases k2 with
    | none =>
      have := rV_some k3; subst this
      rw [lapp_eq]
      have hu2 := run_setObj' (P := P) (.map (res.push { key := rk, val := rx, born := c }) (c + 1)) g1 map_nc
      obtain ⟨ra, ea⟩ := r.setMap h4 hL (es' := es ++ [(k, x, c)]) (c' := c + 1) (res' := res.push { key := rk, val := rx, born := c })
        (by rw [Array.toList_push]; exact g2.append (.cons hk hx .nil))
        (by
          intro e he
          rcases List.mem_append.1 he with h | h
          · exact Nat.lt_succ_of_lt (g3 e h)
          · rw [List.mem_singleton] at h; subst h; exact Nat.lt_succ_self _)
      refine ⟨_, rfl, _, μ, ?_, ra, ea⟩
      simp only [Instr.mapUpdate, Sem.run_bind, run_underlying hu, Result.andThen_ok, g4, kr.check, k1, hu2]
    | @some i v rv n k' a1 a2 a3 =>
      have := rV_some k3; subst this
      rw [lset_eq]
      have ha2 : res[i]? = some ⟨rk, rv, n⟩ := by rw [← Array.getElem?_toList]; exact a2
      have hu2 := run_setObj' (P := P) (.map (res.modify i fun e => { e with key := rk, val := rx }) c) g1 map_nc
      obtain ⟨ra, ea⟩ := r.setMap h4 hL (es' := es.set i (k, x, n)) (c' := c) (res' := res.modify i fun e => { e with key := rk, val := rx })
        (by rw [modify_eq a2]; exact MRs.set hk hx rfl g2 i) (mem_set_lt g3 a1 k x)
      refine ⟨_, rfl, _, μ, ?_, ra, ea⟩
      simp only [Instr.mapUpdate, Sem.run_bind, run_underlying hu, Result.andThen_ok, g4, kr.check, k1, ha2, Option.map_some, Option.getD_some, keyThatStays_self kr.same, hu2]

theorem mapEnt_ok {E : Env} (ok : EnvOk P E) (r : R ck μ h w) {t : TypeId} {m k : AV} {rm rk : Value} (hm : VR μ m rm) (hk : VR μ k rk) {nx : Nx} (e : mapEnt E t m k h = some nx) :
    VOk P ck μ h w (Instr.mapEntry t rm rk) nx := by
  obtain ⟨kt, el, h1, h2⟩ := asMapT_some e
  have hu := und_map ok h1
  obtain ⟨b, rfl, h3⟩ := asMapV_some h2
  obtain ⟨es, c, h4, h5⟩ := asMap_some h3
  cases hm with
  | @map _ L hL =>
    obtain ⟨res, g1, g2, g3, g4⟩ := asMap_real (P := P) r h4 hL
    obtain ⟨kr, x0, q, k1, k2, k3⟩ := mapLook_ok ok hk g2 h5
    cases k2 with
    | none =>
      obtain ⟨i, h6, h7⟩ := ob_some k3
      obtain ⟨z, h8, h9⟩ := ob_some h7
      have := rV_some h9; subst this
      obtain ⟨zv, z1, z2⟩ := (ti_some ok h6).zero_run h8 w
      have hz := z2 ▸ conv_vr μ zv
      rw [lapp_eq]
      have hu2 := run_setObj' (P := P) (.map (res.push { key := rk, val := zv, born := c }) (c + 1)) g1 map_nc
      obtain ⟨ra, ea⟩ := r.setMap h4 hL (es' := es ++ [(k, z, c)]) (c' := c + 1) (res' := res.push { key := rk, val := zv, born := c })
        (by rw [Array.toList_push]; exact g2.append (.cons hk hz .nil))
        (by
          intro e he
          rcases List.mem_append.1 he with h | h
          · exact Nat.lt_succ_of_lt (g3 e h)
          · rw [List.mem_singleton] at h; subst h; exact Nat.lt_succ_self _)
      refine ⟨.tuple #[zv, goInt c], _, μ, ?_, ?_, ra, ea⟩
      · simp only [Instr.mapEntry, Sem.run_bind, run_underlying hu, Result.andThen_ok, g4, kr.check, k1, z1, hu2, Sem.run_pure]
      · exact .tup (.cons hz (.cons (.int _ _) .nil))
    | @some i v rv n k' a1 a2 a3 =>
      have := rV_some k3; subst this
      rw [lset_eq]
      have ha2 : res[i]? = some ⟨rk, rv, n⟩ := by rw [← Array.getElem?_toList]; exact a2
      have hu2 := run_setObj' (P := P) (.map (res.modify i fun e => { e with key := rk }) c) g1 map_nc
      obtain ⟨ra, ea⟩ := r.setMap h4 hL (es' := es.set i (k, v, n)) (c' := c) (res' := res.modify i fun e => { e with key := rk })
        (by rw [modify_eq a2]; exact MRs.set hk a3 rfl g2 i) (mem_set_lt g3 a1 k v)
      refine ⟨.tuple #[rv, goInt n], _, μ, ?_, ?_, ra, ea⟩
      · simp only [Instr.mapEntry, Sem.run_bind, run_underlying hu, Result.andThen_ok, g4, kr.check, k1, ha2, Option.map_some, Option.getD_some, keyThatStays_self kr.same, hu2, Sem.run_pure]
      · exact .tup (.cons a3 (.cons (.int _ _) .nil))

theorem deleteOp_ok {E : Env} (ok : EnvOk P E) (r : R ck μ h w) {t ty kt el : TypeId} (hu : P.underlying t = some (.map kt el)) {ts : List TypeId} {m k : AV} {rm rk : Value} {rest : List Value} (hm : VR μ m rm) (hk : VR μ k rk) {nx : Nx} (e : deleteOp E kt m k h = some nx) :
    VOk P ck μ h w (Builtin.delete_ ⟨t :: ts⟩ ty ⟨rm :: rk :: rest⟩) nx := by
  obtain ⟨b, rfl, h3⟩ := asMapV_some e
  obtain ⟨es, c, h4, h5⟩ := asMap_some h3
  cases hm with
  | @map _ L hL =>
    obtain ⟨res, g1, g2, g3, g4⟩ := asMap_real (P := P) r h4 hL
    obtain ⟨kr, x0, q, k1, k2, k3⟩ := mapLook_ok ok hk g2 h5
    cases k2 with
    | none =>
      have := rV_some k3; subst this
      have hu2 := run_setObj' (P := P) (.map res c) g1 map_nc
      refine ⟨.tuple #[], w, μ, ?_, .tup .nil, r, Ext.refl _ _ _⟩
      have hself : w.putObj L.rb (.map res c) = w := putObj_self g1
      rw [hself] at hu2
      simp [Builtin.delete_, run_underlying hu, g4, kr.check, k1, hu2]
    | @some i v rv n k' a1 a2 a3 =>
      have := rV_some k3; subst this
      rw [ldel_eq]
      have hu2 := run_setObj' (P := P) (.map (res.eraseIdxIfInBounds i) c) g1 map_nc
      obtain ⟨ra, ea⟩ := r.setMap h4 hL (es' := es.eraseIdx i) (c' := c) (res' := res.eraseIdxIfInBounds i)
        (by
          have : (res.eraseIdxIfInBounds i).toList = res.toList.eraseIdx i := by simp
          rw [this]; exact g2.erase i) (fun e he => g3 e (List.mem_of_mem_eraseIdx he))
      refine ⟨.tuple #[], _, μ, ?_, .tup .nil, ra, ea⟩
      simp [Builtin.delete_, run_underlying hu, g4, kr.check, k1, hu2]
end
end LA

namespace LA
open Go hiding Loc

section
variable {P : Program} {ck : Chk} {μ : Mu} {h : AH} {w : World}

theorem MRs.setBorn {x : AV} {rx : Value} (hx : VR μ x rx) {born : Nat} : ∀ {es es' : List (AV × AV × Nat)} {res : List MapEntry}, MRs μ es res → LA.setBorn x born es = some es' →
    ∃ i re, res.findIdx? (fun e => (e.born : Int) == (Int.ofNat born)) = some i ∧ res[i]? = some re ∧ MRs μ es' (res.set i { re with val := rx }) ∧ (∀ e' ∈ es', ∃ e ∈ es, e'.2.2 = e.2.2)
  | _, _, _, .nil, e => by cases e
  | _, es', _, .cons (k := k) (v := v) (rk := rk) (rv := rv) (n := n) (es := es) (res := res) a b c, e => by
    have e : Bool.rec (ob (LA.setBorn x born es) fun l => some ((k, v, n) :: l)) (some ((k, x, n) :: es)) (Nat.beq n born) = some es' := e
    cases hn : Nat.beq n born with
    | true =>
      rw [hn] at e
      cases e
      have hn : n = born := Nat.eq_of_beq_eq_true hn
      subst hn
      refine ⟨0, _, by simp [List.findIdx?_cons], rfl, .cons a hx c, ?_⟩
      intro e' he'
      rcases List.mem_cons.1 he' with h | h
      · subst h; exact ⟨_, List.mem_cons_self, rfl⟩
      · exact ⟨_, List.mem_cons_of_mem _ h, rfl⟩
    | false =>
      rw [hn] at e
      obtain ⟨l, h1, h2⟩ := ob_some e
      cases h2
      obtain ⟨i, re, g1, g2, g3, g4⟩ := c.setBorn hx h1
      have hne : ¬ n = born := fun h => by subst h; simp at hn
      have hne' : ((n : Int) == (Int.ofNat born)) = false := by
        rw [beq_eq_false_iff_ne]
        intro h
        exact hne (Int.ofNat.inj h)
      refine ⟨i + 1, re, by rw [List.findIdx?_cons]; simp only [hne', g1]; rfl, g2, .cons a b g3, ?_⟩
      intro e' he'
      rcases List.mem_cons.1 he' with h | h
      · subst h; exact ⟨_, List.mem_cons_self, rfl⟩
      · obtain ⟨e0, q1, q2⟩ := g4 e' h
        exact ⟨e0, List.mem_cons_of_mem _ q1, q2⟩

theorem entSt_ok (r : R ck μ h w) {t : TypeId} {m s x : AV} {rm rs rx : Value} (hm : VR μ m rm) (hs : VR μ s rs) (hx : VR μ x rx) {nx : Nx} (e : entSt m s x h = some nx) :
    ∃ h', nx = .val LA.undef h' ∧ GivesU P ck μ h w (Instr.entryStore t rm rs rx) h' := by
  obtain ⟨b, rfl, h1⟩ := asMapV_some e
  obtain ⟨k, born, rfl, h2⟩ := asNat_some h1
  obtain ⟨es, c, h3, h4⟩ := asMap_some h2
  obtain ⟨es', h5, h6⟩ := ob_some h4
  have := rV_some h6; subst this
  cases hs
  cases hm with
  | @map _ L hL =>
    obtain ⟨res, g1, g2, g3, g4⟩ := asMap_real (P := P) r h3 hL
    obtain ⟨i, re, q1, q2, q3, q4⟩ := g2.setBorn hx h5
    have q1' : res.findIdx? (fun e => (e.born : Int) == (Int.ofNat born)) = some i := by rw [← q1]; cases res; simp [List.findIdx?_toArray]
    have hu2 := run_setObj' (P := P) (.map (res.modify i fun e => { e with val := rx }) c) g1 map_nc
    obtain ⟨ra, ea⟩ := r.setMap h3 hL (es' := es') (c' := c) (res' := res.modify i fun e => { e with val := rx })
      (by rw [modify_eq q2]; exact q3) (fun e he => by
        obtain ⟨e0, k1, k2⟩ := q4 e he
        rw [k2]; exact g3 e0 k1)
    refine ⟨_, rfl, _, μ, ?_, ra, ea⟩
    simp only [Instr.entryStore, Sem.run_bind, Result.andThen_ok, g4, Go.asInt, Go.asIntOf, Sem.run_pure, q1', hu2]

theorem siter_nc {s : ByteArray} {p : Nat} : ∀ a e f, Obj.stringIter s p ≠ .cells a e f := fun _ _ _ e => by cases e
theorem miter_nc {m : Option Nat} {a b : Nat} {s : Array Nat} : ∀ x e f, Obj.mapIter m a s b ≠ .cells x e f := fun _ _ _ e => by cases e

theorem allocPtr_ok (r : R ck μ h w) {blk : AB} (hnr : ∀ cs m, blk ≠ .row cs m) {o : Obj} (hB : ∀ μ', μ.le μ' → BR ck μ' (w.alloc o) ⟨w.heap.size, 0, 0⟩ blk) {nx : Nx} (e : LA.alloc h blk (fun b h => rV h (.ptr b 0)) = some nx) :
    VOk P ck μ h w (do pure (.pointer (some ⟨← newObj o, 0, none⟩))) nx := by
  rw [alloc_eq] at e
  have := rV_some e; subst this
  have hnone : μ h.next = none := by
    cases e : μ h.next with
    | none => rfl
    | some L => exact absurd (r.dom _ _ e).1 (Nat.lt_irrefl _)
  obtain ⟨ra, ea⟩ := r.alloc blk (fun cs l e => absurd e (hnr _ _)) o 0 0 (hB _ (Mu.le_upd _ hnone))
  refine ⟨.pointer (some ⟨w.heap.size, 0, none⟩), _, _, by simp, ?_, ra, ea⟩
  exact VR.ptr (L := ⟨w.heap.size, 0, 0⟩) 0 (Mu.upd_same _ _ _)

theorem rangeOp_ok {E : Env} (ok : EnvOk P E) (r : R ck μ h w) {t : TypeId} {x : AV} {rx : Value} (hx : VR μ x rx) {nx : Nx} (e : rangeOp (tyk E t) x h = some nx) : VOk P ck μ h w (Instr.range t rx) nx := by
  cases ht : tyk E t with
  | string =>
    rw [ht] at e
    have hu := und_string ok ht
    obtain ⟨s, rfl, h1⟩ := asStr_some e
    cases hx with
    | str bs =>
      have := allocPtr_ok (P := P) r (blk := .siter (bs.data.toList.map (·.toNat)) 0) (fun _ _ e => by cases e) (o := .stringIter bs 0) (fun μ' _ => ⟨rfl, bs, World.alloc_heap_new _ _, rfl⟩) h1
      cases nx with
      | val v h' =>
        obtain ⟨rv, w', μ', q1, q2⟩ := this
        refine ⟨rv, w', μ', ?_, q2⟩
        rw [← q1]
        simp [Instr.range, run_underlying hu]
      | _ => exact this.elim
  | map kt el =>
    rw [ht] at e
    have hu := und_map ok ht
    cases hx with
    | nilm =>
      have := allocPtr_ok (P := P) r (blk := .miter none [] 0) (fun _ _ e => by cases e) (o := .mapIter none 0 #[] 0) (fun μ' _ => ⟨rfl, none, #[], World.alloc_heap_new _ _, rfl, rfl⟩) e
      cases nx with
      | val v h' =>
        obtain ⟨rv, w', μ', q1, q2⟩ := this
        refine ⟨rv, w', μ', ?_, q2⟩
        rw [← q1]
        simp [Instr.range, run_underlying hu]
      | _ => exact this.elim
    | @map b L hL =>
      obtain ⟨es, c, h1, h2⟩ := asMap_some e
      obtain ⟨res, g1, g2, g3, g4⟩ := asMap_real (P := P) r h1 hL
      have := allocPtr_ok (P := P) r (blk := .miter (some b) [] c) (fun _ _ e => by cases e) (o := .mapIter (some L.rb) c #[] c) (fun μ' hle => ⟨rfl, some L.rb, #[], World.alloc_heap_new _ _, rfl, L, hle _ _ hL, rfl⟩) h2
      cases nx with
      | val v h' =>
        obtain ⟨rv, w', μ', q1, q2⟩ := this
        refine ⟨rv, w', μ', ?_, q2⟩
        rw [← q1]
        simp [Instr.range, run_underlying hu, g4]
      | _ => exact this.elim
    | _ => cases e
  | _ => rw [ht] at e; cases e

theorem memN_eq (n : Nat) : ∀ l : List Nat, memN n l = l.contains n
  | [] => rfl
  | x :: l => by
    show @Bool.rec (fun _ => Bool) (memN n l) true (Nat.beq n x) = _
    rw [List.contains_cons, memN_eq n l]
    have : (n == x) = Nat.beq n x := by
      cases e : Nat.beq n x with
      | true => rw [Nat.eq_of_beq_eq_true e]; simp
      | false =>
        rw [beq_eq_false_iff_ne]
        intro h; subst h; simp at e
    rw [this]
    cases Nat.beq n x <;> rfl

theorem MRs.unseen {seen : List Nat} {rseen : Array Nat} (hs : rseen.toList.reverse = seen) : ∀ {es : List (AV × AV × Nat)} {res : List MapEntry}, MRs μ es res → MRs μ (LA.unseen seen es) (res.filter fun e => !rseen.contains e.born)
  | _, _, .nil => .nil
  | _, _, .cons (k := k) (v := v) (rk := rk) (rv := rv) (n := n) (es := es) (res := res) a b c => by
    have hc : rseen.contains n = memN n seen := by
      rw [memN_eq, ← hs]; simp
    show MRs μ (@Bool.rec (fun _ => List (AV × AV × Nat)) ((k, v, n) :: LA.unseen seen es) (LA.unseen seen es) (memN n seen)) _
    rw [List.filter_cons]
    dsimp only
    rw [hc]
    cases memN n seen with
    | true => exact c.unseen hs
    | false => exact .cons a b (c.unseen hs)

theorem unseen_sub {seen : List Nat} : ∀ {es : List (AV × AV × Nat)} {e : AV × AV × Nat}, e ∈ LA.unseen seen es → e ∈ es
  | [], _, h => by cases h
  | e0 :: es, e, h => by
    have h : e ∈ @Bool.rec (fun _ => List (AV × AV × Nat)) (e0 :: LA.unseen seen es) (LA.unseen seen es) (memN e0.2.2 seen) := h
    cases hm : memN e0.2.2 seen with
    | true => rw [hm] at h; exact List.mem_cons_of_mem _ (unseen_sub h)
    | false =>
      rw [hm] at h
      rcases List.mem_cons.1 h with h | h
      · subst h; exact List.mem_cons_self
      · exact List.mem_cons_of_mem _ (unseen_sub h)
end
end LA

namespace LA
open Go hiding Loc
open Go.ChangeMaps (setBlock)

section
variable {P : Program} {ck : Chk} {μ : Mu} {h : AH} {w : World}

theorem over_vr {μ : Mu} : VR μ (.tup [.bool false]) (.tuple #[.bool false]) := .tup (.cons (.bool _) .nil)

theorem MRs.mem {es : List (AV × AV × Nat)} {res : List MapEntry} (m : MRs μ es res) {re : MapEntry} (h : re ∈ res) : ∃ e ∈ es, re.born = e.2.2 := by
  induction m with
  | nil => cases h
  | @cons k v rk rv n es res a b c ih =>
    rcases List.mem_cons.1 h with h | h
    · subst h; exact ⟨_, List.mem_cons_self, rfl⟩
    · obtain ⟨e, h1, h2⟩ := ih h; exact ⟨e, List.mem_cons_of_mem _ h1, h2⟩

theorem nextOp_ok (r : R ck μ h w) {i : AV} {ri : Value} (hi : VR μ i ri) {isS : Bool} {nx : Nx} (e : nextOp i isS h = some nx) (t : TypeId) : VOk P ck μ h w (Instr.next ri isS t) nx := by
  obtain ⟨rb, o, rfl, h1⟩ := asPtr_some e
  obtain ⟨h2, h3⟩ := bo_some h1
  have h2 : o = 0 := Nat.eq_of_beq_eq_true h2
  subst h2
  obtain ⟨blk, h4, h5⟩ := ob_some h3
  cases hi with
  | @ptr _ L _ hL =>
    cases blk with
    | siter s pos =>
      obtain ⟨h6, h7⟩ := bo_some h5
      subst h6
      obtain ⟨k0, bs, k1, k2⟩ := r.rel _ _ _ h4 hL
      have hoff : L.off + 0 = 0 := k0
      rw [hoff]
      have hsz : llen s = bs.size := by rw [llen_eq, k2]; simp
      cases hp : Nat.blt pos (llen s) with
      | false =>
        have h7 : @Bool.rec (fun _ => Option Nx) (rV h (.tup [.bool false])) (ob (lget s pos) fun c => bo (Nat.blt c 128) (rV ⟨h.next, T.set h.t rb (.siter s (Nat.succ pos))⟩ (.tup [.bool true, .int .i64 (Int.ofNat pos), .int .i32 (Int.ofNat c)]))) (Nat.blt pos (llen s)) = some nx := h7
        rw [hp] at h7
        have := rV_some h7; subst this
        have hnl : ¬ pos < bs.size := fun hl => by
          have : Nat.blt pos (llen s) = true := Nat.ble_eq_true_of_le (hsz ▸ hl)
          rw [this] at hp; cases hp
        refine gives_pure r ?_ over_vr
        simp [Instr.next, run_getObj' (P := P) k1 siter_nc, hnl]
      | true =>
        have h7 : @Bool.rec (fun _ => Option Nx) (rV h (.tup [.bool false])) (ob (lget s pos) fun c => bo (Nat.blt c 128) (rV ⟨h.next, T.set h.t rb (.siter s (Nat.succ pos))⟩ (.tup [.bool true, .int .i64 (Int.ofNat pos), .int .i32 (Int.ofNat c)]))) (Nat.blt pos (llen s)) = some nx := h7
        rw [hp] at h7
        obtain ⟨c, h8, h9⟩ := ob_some h7
        obtain ⟨h10, h11⟩ := bo_some h9
        have := rV_some h11; subst this
        have hlt : pos < bs.size := hsz ▸ (Nat.le_of_ble_eq_true hp)
        rw [lget_eq, k2, List.getElem?_map] at h8
        have hbv : bs.data.toList[pos]? = some (bs[pos]'hlt) := by
          rw [Array.getElem?_toList]
          exact Array.getElem?_eq_getElem hlt
        rw [hbv] at h8
        have h8 : (bs[pos]'hlt).toNat = c := by injection h8
        have h10 : c < 128 := Nat.le_of_ble_eq_true h10
        have hd := decode_ascii bs pos hlt (by rw [h8]; exact h10)
        have hu2 := run_setObj' (P := P) (.stringIter bs (pos + 1)) k1 siter_nc
        obtain ⟨ra, ea⟩ := r.setBlk h4 hL (fun _ _ e => by cases e) (fun _ _ e => by cases e) (blk' := .siter s (pos + 1)) (o' := .stringIter bs (pos + 1)) k1 (fun q e => by cases e) ⟨k0, bs, World.putObj_heap_same (r.dom _ _ hL).2, k2⟩
        refine ⟨.tuple #[.bool true, goInt pos, .int .i32 c], _, μ, ?_, .tup (.cons (.bool _) (.cons (.int _ _) (.cons (.int _ _) .nil))), ra, ea⟩
        simp [Instr.next, run_getObj' (P := P) k1 siter_nc, hlt, hd, h8, hu2]
    | miter m seen clock =>
      cases isS with
      | true => cases h5
      | false =>
        obtain ⟨k0, rm, rseen, k1, k2, k3⟩ := r.rel _ _ _ h4 hL
        have hoff : L.off + 0 = 0 := k0
        rw [hoff]
        have h5 : nextM rb m seen clock h = some nx := h5
        cases m with
        | none =>
          have k3 : rm = none := k3
          subst k3
          have := rV_some (show rV h (.tup [.bool false]) = some nx from h5); subst this
          refine gives_pure r ?_ over_vr
          simp [Instr.next, run_getObj' (P := P) k1 miter_nc]
        | some mb =>
          obtain ⟨M, hM, rfl⟩ := k3
          obtain ⟨es, c, h6, h7⟩ := asMap_some (show asMap (h.t.get mb) _ = some nx from h5)
          obtain ⟨h8, h9⟩ := bo_some h7
          have h8 : c = clock := Nat.eq_of_beq_eq_true h8
          subst h8
          obtain ⟨res, g1, g2, g3, g4⟩ := asMap_real (P := P) r h6 hM
          have hun := g2.unseen (rseen := rseen) k2
          have hleft : (leftOf res rseen).toList = res.toList.filter fun e => !rseen.contains e.born := by unfold leftOf; rw [Array.toList_filter]
          have hrun := run_next_at (P := P) w t L.rb M.rb c c rseen res c k1 g1 (fun x hx => by
            obtain ⟨e, q1, q2⟩ := g2.mem hx
            rw [q2]; exact g3 e q1) (Nat.le_refl _)
          cases hu : unseen seen es with
          | nil =>
            rw [hu] at h9 hun
            have := rV_some (show rV h (.tup [.bool false]) = some nx from h9); subst this
            rw [← hleft] at hun
            have hnil : (leftOf res rseen).toList = [] := by
              generalize (leftOf res rseen).toList = l at hun
              cases hun; rfl
            rcases hrun with ⟨_, q⟩ | ⟨e, q1, _⟩
            · exact gives_pure r q over_vr
            · rw [hnil] at q1; cases q1
          | cons en rest =>
            cases rest with
            | cons _ _ => rw [hu] at h9; cases h9
            | nil =>
              rw [hu] at h9 hun
              have := rV_some (show rV ⟨h.next, T.set h.t rb (.miter (some mb) (en.2.2 :: seen) c)⟩ (.tup [.bool true, en.1, en.2.1]) = some nx from h9); subst this
              rw [← hleft] at hun
              obtain ⟨ek, ev, eb⟩ := en
              rcases hrun with ⟨q, _⟩ | ⟨e, q1, w1, q2, q3⟩
              · have hz : (leftOf res rseen).toList.length = 0 := q
                rw [hun.length] at hz; cases hz
              · generalize (leftOf res rseen).toList = l at hun q1
                cases hun with
                | @cons _ _ rk rv _ _ _ a b d =>
                  cases d
                  rw [List.mem_singleton] at q1
                  subst q1
                  have hr1 : R ck μ h w1 ∧ Ext μ h w μ h w1 := by
                    rcases q2 with rfl | rfl
                    · exact ⟨r, Ext.refl _ _ _⟩
                    · exact ⟨r.drawn (Drawn.drew w), Ext.drawn (Drawn.drew w)⟩
                  have k1' : w1.heap[L.rb]? = some (.mapIter (some M.rb) c rseen c) := by rcases q2 with rfl | rfl <;> exact k1
                  obtain ⟨ra, ea⟩ := hr1.1.setBlk h4 hL (fun _ _ e => by cases e) (fun _ _ e => by cases e) (blk' := .miter (some mb) (eb :: seen) c) (o' := .mapIter (some M.rb) c (rseen.push eb) c) k1' (fun q e => by cases e)
                    ⟨k0, some M.rb, rseen.push eb, World.putObj_heap_same (hr1.1.dom _ _ hL).2, by rw [Array.toList_push, List.reverse_append, k2]; rfl, M, hM, rfl⟩
                  exact ⟨_, _, μ, q3, .tup (.cons (.bool _) (.cons a (.cons b .nil))), ra, hr1.2.trans ea⟩
    | _ => cases h5

theorem findBorn_ok {n : Nat} : ∀ {es : List (AV × AV × Nat)} {res : List MapEntry}, MRs μ es res → ∀ {e : AV × AV × Nat}, findBorn n es = some e → ∃ re, res.find? (fun x => x.born == n) = some re ∧ VR μ e.1 re.key ∧ VR μ e.2.1 re.val
  | _, _, .nil, _, h => by cases h
  | _, _, .cons (k := k) (v := v) (rk := rk) (rv := rv) (n := m) (es := es) (res := res) a b c, e, h => by
    have h : @Bool.rec (fun _ => Option (AV × AV × Nat)) (findBorn n es) (some (k, v, m)) (Nat.beq m n) = some e := h
    cases hn : Nat.beq m n with
    | true =>
      rw [hn] at h
      cases h
      have := Nat.eq_of_beq_eq_true hn
      exact ⟨⟨rk, rv, m⟩, by rw [List.find?_cons]; simp [this], a, b⟩
    | false =>
      rw [hn] at h
      obtain ⟨re, g1, g2⟩ := findBorn_ok c h
      have hne : (m == n) = false := by
        rw [beq_eq_false_iff_ne]
        intro hh; subst hh; simp at hn
      exact ⟨re, by rw [List.find?_cons]; simp [hne, g1], g2⟩

theorem entryOp_ok (r : R ck μ h w) {i : AV} {ri : Value} (hi : VR μ i ri) {nx : Nx} (e : entryOp i h = some nx) : VOk P ck μ h w (Instr.entry ri) nx := by
  obtain ⟨rb, o, rfl, h1⟩ := asPtr_some e
  obtain ⟨h2, h3⟩ := bo_some h1
  have h2 : o = 0 := Nat.eq_of_beq_eq_true h2
  subst h2
  obtain ⟨blk, h4, h5⟩ := ob_some h3
  cases blk with
  | miter m seen clock =>
    obtain ⟨b, rfl, h6⟩ := ob_some h5
    cases seen with
    | nil => cases h6
    | cons last seen =>
      obtain ⟨es, c, h7, h8⟩ := asMap_some h6
      obtain ⟨h9, h10⟩ := bo_some h8
      have h9 : c = clock := Nat.eq_of_beq_eq_true h9
      subst h9
      obtain ⟨en, h11, h12⟩ := ob_some h10
      have := rV_some h12; subst this
      cases hi with
      | @ptr _ L _ hL =>
        obtain ⟨k0, rm, rseen, k1, k2, M, hM, rfl⟩ := r.rel _ _ _ h4 hL
        obtain ⟨res, g1, g2, g3, g4⟩ := asMap_real (P := P) r h7 hM
        obtain ⟨re, f1, f2, f3⟩ := findBorn_ok g2 h11
        have f1' : res.find? (fun x => x.born == last) = some re := by rw [← f1]; simp
        have hoff : L.off + 0 = 0 := k0
        have hb : rseen.back? = some last := by
          rw [← Array.getLast?_toList, ← List.head?_reverse, k2]; rfl
        rw [hoff]
        refine gives_pure r (rv := .tuple #[re.key, re.val]) ?_ (.tup (.cons f2 (.cons f3 .nil)))
        simp only [Instr.entry, Sem.run_bind, run_getObj' (P := P) k1 miter_nc, Result.andThen_ok, hb, g4, bne_self_eq_false, Bool.false_eq_true, if_false, f1', Sem.run_pure]
  | _ => cases h5
end
end LA

namespace LA
open Go hiding Loc

section
variable {P : Program} {ck : Chk} {μ : Mu} {h : AH} {w : World}

/-- a new array with room behind: what lies in the room is not known -/
theorem grow_ok (r : R ck μ h w) {s : Sem Value} {news : List AV} {rnews rest : List Value} (hv : VRs μ news rnews) {n sz newCap : Nat} {e : TypeId} {fr : Nat × Nat} (hl : news.length = n * sz) (hc : n ≤ newCap) (hr : rest.length = (newCap - n) * sz)
    (hfr : ∀ o, o < newCap * sz → ¬ (fr.1 ≤ o ∧ o < fr.2))
    (hs : s.run P w = .ok (.slice (some ⟨w.heap.size, 0, none⟩) n newCap) (w.drew.alloc (.cells ⟨rnews ++ rest⟩ e fr))) :
    VOk P ck μ h w s (.val (.slice h.next 0 n n sz false) ⟨h.next + 1, T.set h.t h.next (.row news (.own []))⟩) := by
  have hnone : μ h.next = none := by
    cases e : μ h.next with
    | none => rfl
    | some L => exact absurd (r.dom _ _ e).1 (Nat.lt_irrefl _)
  have r2 := drew_R r
  have hsz : (rnews ++ rest).length = newCap * sz := by
    rw [List.length_append, hv.length, hl, hr, ← Nat.add_mul]
    congr 1; omega
  have hle := Mu.le_upd (μ := μ) (b := h.next) ⟨w.drew.heap.size, 0, newCap * sz⟩ hnone
  obtain ⟨ra, ea⟩ := r2.alloc (.row news (.own [])) (fun cs l e => by cases e; intro x hx; cases hx) (.cells ⟨rnews ++ rest⟩ e fr) 0 (newCap * sz) (by
    refine ⟨⟨rnews ++ rest⟩, e, fr, World.alloc_heap_new _ _, by simpa using hsz, ?_, ?_, hfr⟩
    · rw [hl]; simpa using Nat.mul_le_mul_right sz hc
    · intro j v hj
      obtain ⟨rv, g1, g2⟩ := hv.get hj
      refine ⟨rv, ?_, g2.mono hle⟩
      obtain ⟨hjl, _⟩ := List.getElem?_eq_some_iff.1 g1
      simp [List.getElem?_append_left hjl, g1])
  refine ⟨_, _, _, hs, ?_, ra, (Ext.drawn (Drawn.drew w)).trans ea⟩
  have := VR.slice (μ := μ.upd h.next ⟨w.heap.size, 0, newCap * sz⟩) (b := h.next) 0 n n sz false newCap (Mu.upd_same _ _ _) (Nat.le_refl _) hc (fun h => by cases h) (by simp)
  simpa using this

theorem notInt2_ok {E : Env} (ok : EnvOk P E) {ts : List TypeId} (e : notInt2 E ts = true) : ∃ t u rest d, ts = t :: u :: rest ∧ P.underlying u = some d ∧ ∀ k, d ≠ .int k := by
  cases ts with
  | nil => cases e
  | cons t r => cases r with
    | nil => cases e
    | cons u rest =>
      cases hk : tyk E u with
      | int k => have e : TK.rec (motive := fun _ => Bool) true (fun _ => false) true (fun _ => true) (fun _ => true) (fun _ _ => true) (fun _ _ => true) (fun _ => true) true true true false (tyk E u) = true := e; rw [hk] at e; cases e
      | other => have e : TK.rec (motive := fun _ => Bool) true (fun _ => false) true (fun _ => true) (fun _ => true) (fun _ _ => true) (fun _ _ => true) (fun _ => true) true true true false (tyk E u) = true := e; rw [hk] at e; cases e
      | _ =>
        obtain ⟨_, d, _, _, _, g2, g3⟩ := und_of ok hk (by simp)
        refine ⟨t, u, rest, d, rfl, g2, fun k hd => ?_⟩
        subst hd
        rw [show TK.of (.int k) = .int k from rfl] at g3
        cases g3

theorem slElem_some {E : Env} (ok : EnvOk P E) {β : Type} {ts : List TypeId} {K : TypeId → TI → Option β} {r : β} (e : slElem E ts K = some r) :
    ∃ t rest el i, ts = t :: rest ∧ P.underlying t = some (.slice el) ∧ TIr P el i ∧ i.small = true ∧ K el i = some r := by
  cases ts with
  | nil => cases e
  | cons t rest =>
    obtain ⟨el, h1, h2⟩ := asSl_some (show asSl (tyk E t) _ = some r from e)
    obtain ⟨i, h3, h4⟩ := ob_some h2
    obtain ⟨h5, h6⟩ := bo_some h4
    exact ⟨t, rest, el, i, rfl, und_slice ok h1, ti_some ok h3, h5, h6⟩

/-- append to an empty rest that has no room -/
theorem appToE_ok (r : R ck μ h w) {t u ty e : TypeId} {i : TI} {d : TypeDesc} (ht : P.underlying t = some (.slice e)) (hu : P.underlying u = some d) (hd : ∀ k, d ≠ .int k)
    (hi : TIr P e i) (hsm : i.small = true) {z : AV} (hz : i.zero = some z) (hzl : z.cells.length = i.size) {b o n : Nat} {ex : Bool} {new : List AV} {nx : Nx}
    (ha : appTo i.size new n b o 0 0 ex h = some nx) {L : Loc} (hL : μ b = some L) (a : Addr)
    {x : Value} (hn : ∀ w' : World, (Builtin.lenOf x).run P w' = .ok n w') {rnew : List Value} (hnew : ∀ w' : World, w'.heap = w.heap → (Builtin.firstCells i.size n x).run P w' = .ok ⟨rnew⟩ w') (hvn : VRs μ new rnew) (hln : new.length = n * i.size) :
    VOk P ck μ h w (Builtin.append_ #[t, u] ty #[.slice (some a) 0 0, x]) nx := by
  obtain ⟨q, d', q1, q2, q3, q4, q5, q6, q7, q8⟩ := hi.info
  obtain ⟨zv, hzv, hzc⟩ : ∃ zv, q.zero = some zv ∧ conv zv = z := by
    rw [hz] at q5
    cases e0 : q.zero with
    | none => rw [e0] at q5; cases q5
    | some v => rw [e0] at q5; injection q5 with q5; exact ⟨v, rfl, q5.symm⟩
  have hzs : zv.cells.size = i.size := by rw [← conv_cells_length, hzc]; exact hzl
  have hzero := notInt_match d hd
  unfold appTo at ha
  rw [fN_eq] at ha
  obtain ⟨hfit, ha⟩ := bo_some ha
  have hfit' : 0 + n ≤ 1048576 := Nat.le_of_ble_eq_true hfit
  have hadd : ∀ a b : Nat, Nat.add a b = a + b := fun _ _ => rfl
  have hmulz : ∀ a b : Nat, Nat.mul a b = a * b := fun _ _ => rfl
  simp only [hmulz, hadd, Nat.zero_mul, Nat.zero_add, Nat.add_zero] at ha
  by_cases hn0 : n = 0
  · subst hn0
    have hnil : new = [] := List.eq_nil_of_length_eq_zero (by rw [hln, Nat.zero_mul])
    subst hnil
    cases hvn
    obtain ⟨h', hs, e'⟩ := ob_some (show ob (storeCells b o [] h) (fun h => some (.val (.slice b o 0 0 i.size ex) h)) = some nx from ha)
    cases e'
    obtain ⟨w', μ', g1, g2, g3⟩ := storeCells_ok (P := P) r hs hL (.nil (μ := μ))
    have g1 : w = w' := by simpa [Go.storeCells] using g1
    subst g1
    refine ⟨.slice (some a) 0 0, w, μ', ?_, .sliceE o i.size ex a (g3.mono _ _ hL), g2, g3⟩
    unfold Builtin.append_
    simp only [List.getElem?_toArray, List.getElem?_cons_zero, List.getElem?_cons_succ, Sem.run_bind, run_underlying ht, Result.andThen_ok, Go.sizeOf, run_typeInfo' q1, Sem.run_pure, run_underlying hu, Bool.false_eq_true, if_false, hn]
    rw [← q4]
    simp [hnew w rfl, Go.storeCells]
  · have hb : Nat.ble n 0 = false := by
      cases e0 : Nat.ble n 0 with
      | false => rfl
      | true => exact absurd (Nat.le_zero.1 (Nat.le_of_ble_eq_true e0)) hn0
    rw [hb] at ha
    have hnew2 := hnew w.drew rfl
    rw [q4] at hnew2
    obtain ⟨newCap, rest, g1, g2, g3⟩ := run_append_new (P := P) (w := w) (ty := ty) (base := some a) (sLen := 0) (sCap := 0) (x := x) (old := []) (new := rnew) ht hu hd q1 hzv (TI_bytes hi hsm q1) (hn w) hfit' (by omega)
      (by simp [Builtin.firstCells, loadCells, loadCellsFrom]) hnew2
    cases ex with
    | true =>
      obtain ⟨cs, m, hb', ha1⟩ := asRow_some (show asRow (T.get h.t b) (fun cs _ => ob (ltake (ldrop cs o) 0) fun old => mkSlice i.size n false (lapp old new) h) = some nx from ha)
      obtain ⟨old, ha2, ha3⟩ := ob_some ha1
      obtain ⟨k1, k2⟩ := ltake_some _ _ _ ha2
      rw [List.take_zero] at k1
      subst k1
      unfold mkSlice at ha3
      rw [newRow_eq] at ha3
      cases ha3
      rw [Nat.zero_add] at g1 g2 g3
      exact grow_ok (fr := (0, 0)) r (by rw [lapp_eq]; exact hvn) (by rw [lapp_eq]; exact hln) g1 (by rw [g2, hzs]) (fun o _ => by simp) (by simpa using g3)
    | false =>
      obtain ⟨hlc, ha⟩ := bo_some (show bo (Nat.beq 0 0) _ = some nx from ha)
      obtain ⟨cs, m, hb', ha1⟩ := asRow_some ha
      cases m with
      | ro => cases ha1
      | stale => cases ha1
      | own anc =>
        obtain ⟨hend0, ha1⟩ := bo_some ha1
        obtain ⟨old, ha2, ha3⟩ := ob_some ha1
        obtain ⟨k1, k2⟩ := ltake_some _ _ _ ha2
        rw [List.take_zero] at k1
        subst k1
        rw [alloc_eq] at ha3
        cases ha3
        have := grow_own (P := P) (ck := ck) (len := 0) (n := n) (new := new) (sz := i.size) r hb' hL (.nil (μ := μ)) hvn (by simp) hln g1 (by rw [g2, hzs]) g3
        simpa using this

theorem append_args {t u ty : TypeId} {rest : List TypeId} {s x : Value} {more : List Value} : Builtin.append_ ⟨t :: u :: rest⟩ ty ⟨s :: x :: more⟩ = Builtin.append_ #[t, u] ty #[s, x] := by
  simp [Builtin.append_]

theorem appendOp_ok {E : Env} (ok : EnvOk P E) (r : R ck μ h w) {ts : List TypeId} {ty : TypeId} {s x : AV} {rs rx : Value} {more : List Value} (hs : VR μ s rs) (hx : VR μ x rx) {nx : Nx}
    (e : (slElem E ts fun _ i => bo (notInt2 E ts) (ob i.zero fun z => bo (Nat.beq (llen z.cells) i.size) (appendOp i.size s x h))) = some nx) :
    VOk P ck μ h w (Builtin.append_ ⟨ts⟩ ty ⟨rs :: rx :: more⟩) nx := by
  obtain ⟨t, rest, el, i, rfl, hu, hi, hsm, h1⟩ := slElem_some ok e
  obtain ⟨h2, h3⟩ := bo_some h1
  obtain ⟨t', u, rest', d, ht, hd, hnd⟩ := notInt2_ok ok h2
  cases ht
  obtain ⟨z, h4, h5⟩ := ob_some h3
  obtain ⟨h6, h7⟩ := bo_some h5
  rw [llen_eq] at h6
  have hzl : z.cells.length = i.size := Nat.eq_of_beq_eq_true h6
  obtain ⟨n, h8, h9⟩ := ob_some h7
  obtain ⟨new, h10, h11⟩ := ob_some h9
  have hn := lenOf_ok (P := P) h8 hx
  obtain ⟨rcs, k1, k2, k3⟩ := firstCells_ok (P := P) r h10 hx
  rw [append_args]
  cases s with
  | slice b o len cap sz ex =>
    cases hs with
    | @slice _ L _ _ _ _ _ rcap hL q1 q2 q3 q4 =>
      obtain ⟨h12, h13⟩ := bo_some (show bo (Nat.beq i.size sz) (appTo i.size new n b o len cap ex h) = some nx from h11)
      have h12 : i.size = sz := Nat.eq_of_beq_eq_true h12
      subst h12
      exact appTo_ok r hu hd hnd hi hsm h4 hzl h13 hL q1 q2 q3 q4 hn k1 k2 k3
    | @sliceE _ L _ _ _ a hL =>
      obtain ⟨h12, h13⟩ := bo_some (show bo (Nat.beq i.size sz) (appTo i.size new n b o 0 0 ex h) = some nx from h11)
      have h12 : i.size = sz := Nat.eq_of_beq_eq_true h12
      subst h12
      exact appToE_ok r hu hd hnd hi hsm h4 hzl h13 hL a hn k1 k2 k3
  | nils =>
    cases hs
    have h11 : @Bool.rec (fun _ => Option Nx) (bo (fits n) (mkSlice i.size n false new h)) (some (.val .nils h)) (Nat.beq n 0) = some nx := h11
    obtain ⟨q, d', q1, q2, q3, q4, q5, q6, q7, q8⟩ := hi.info
    obtain ⟨zv, hzv, hzc⟩ : ∃ zv, q.zero = some zv ∧ conv zv = z := by
      rw [h4] at q5
      cases e0 : q.zero with
      | none => rw [e0] at q5; cases q5
      | some v => rw [e0] at q5; injection q5 with q5; exact ⟨v, rfl, q5.symm⟩
    have hzs : zv.cells.size = i.size := by rw [← conv_cells_length, hzc]; exact hzl
    cases hb : Nat.beq n 0 with
    | true =>
      rw [hb] at h11
      cases h11
      have hn0 : n = 0 := Nat.eq_of_beq_eq_true hb
      subst hn0
      refine gives_pure r (rv := .slice none 0 0) ?_ .nils
      have hm := notInt_match d hnd
      unfold Builtin.append_
      simp only [List.getElem?_toArray, List.getElem?_cons_zero, List.getElem?_cons_succ, Sem.run_bind, run_underlying hu, Result.andThen_ok, Go.sizeOf, run_typeInfo' q1, Sem.run_pure, run_underlying hd, 
        Bool.false_eq_true, if_false, hn, Nat.add_zero, Nat.le_refl, if_true, Bool.not_false]
      rw [q4] at k1
      rw [k1 w rfl]
      simp
    | false =>
      rw [hb] at h11
      obtain ⟨hf, h12⟩ := bo_some h11
      have hf : n ≤ 1048576 := Nat.le_of_ble_eq_true hf
      have hn0 : 0 < n := Nat.pos_of_ne_zero fun h => by subst h; cases hb
      unfold mkSlice at h12
      rw [newRow_eq] at h12
      cases h12
      rw [q4] at k1
      obtain ⟨newCap, rest, g1, g2, g3⟩ := run_append_new (P := P) (w := w) (ty := ty) (base := none) (sLen := 0) (sCap := 0) (x := rx) (old := []) (new := rcs) hu hd hnd q1 hzv (TI_bytes hi hsm q1) (hn w) (by omega) (by omega)
        (by simp [Builtin.firstCells]) (k1 w.drew rfl)
      rw [Nat.zero_add] at g1 g2 g3
      exact grow_ok (fr := (0, 0)) r k2 (by rw [k3]) g1 (by rw [g2, hzs]) (fun o _ => by simp) (by simpa using g3)
  | _ => cases h11
end
end LA

namespace LA
open Go hiding Loc

section
variable {P : Program} {ck : Chk} {μ : Mu} {h : AH} {w : World}

theorem copyOp_ok {E : Env} (ok : EnvOk P E) (r : R ck μ h w) {ts : List TypeId} {ty : TypeId} {s x : AV} {rs rx : Value} {more : List Value} (hs : VR μ s rs) (hx : VR μ x rx) {nx : Nx}
    (e : (slElem E ts fun _ i => copyOp i.size s x h) = some nx) : VOk P ck μ h w (Builtin.copy_ ⟨ts⟩ ty ⟨rs :: rx :: more⟩) nx := by
  obtain ⟨t, rest, el, i, rfl, hu, hi, hsm, h1⟩ := slElem_some ok e
  obtain ⟨dn, h2, h3⟩ := ob_some h1
  obtain ⟨sn, h4, h5⟩ := ob_some h3
  rw [fN_eq] at h5
  obtain ⟨cs, h6, h7⟩ := ob_some h5
  have hsn := lenOf_ok (P := P) h4 hx
  have hz := hi.size_run w
  have hmin : @Bool.rec (fun _ => Nat) sn dn (Nat.ble dn sn) = Nat.min sn dn := by
    cases hb : Nat.ble dn sn with
    | true => have := Nat.le_of_ble_eq_true hb; show dn = min sn dn; omega
    | false =>
      have : ¬ dn ≤ sn := fun hh => by rw [Nat.ble_eq_true_of_le hh] at hb; cases hb
      show sn = min sn dn; omega
  rw [hmin] at h6 h7
  obtain ⟨rcs, k1, k2, k3⟩ := firstCells_ok (P := P) r h6 hx
  cases s with
  | nils =>
    cases hs
    cases h2
    have := rN_eq h (Nat.min sn 0)
    rw [show cpX .nils i.size (Nat.min sn 0) cs h = rN h (Nat.min sn 0) from rfl, this] at h7
    cases h7
    refine gives_pure r ?_ (.int .i64 _)
    have hz0 : Nat.min sn 0 = 0 := Nat.min_zero sn
    have k1' := k1 w rfl
    rw [hz0] at k1' ⊢
    unfold Builtin.copy_
    simp [run_underlying hu, hsn, hz, k1', goInt]
  | slice b o len cap sz ex =>
    cases h2
    obtain ⟨h8, h9⟩ := bo_some (show bo (Nat.beq i.size sz) (ob (storeCells b o cs h) fun h => rN h (Nat.min sn dn)) = some nx from h7)
    obtain ⟨h', h10, h11⟩ := ob_some h9
    rw [rN_eq] at h11
    cases h11
    cases hs with
    | @slice _ L _ _ _ _ _ rcap hL q1 q2 q3 q4 =>
      obtain ⟨w', μ', g1, g2, g3⟩ := storeCells_ok (P := P) r h10 hL k2
      refine ⟨.int .i64 (Int.ofNat (Nat.min sn dn)), w', μ', ?_, .int _ _, g2, g3⟩
      unfold Builtin.copy_
      simp [run_underlying hu, hsn, hz, k1 w rfl, goInt, g1]
    | @sliceE _ L _ _ _ a hL =>
      have hmin : Nat.min sn 0 = 0 := Nat.min_zero sn
      have k1' := k1 w rfl
      rw [hmin] at k1' k3
      have hcs : cs = [] := List.eq_nil_of_length_eq_zero (by rw [k3, Nat.zero_mul])
      subst hcs
      cases k2
      obtain ⟨w', μ', g1, g2, g3⟩ := storeCells_ok (P := P) r h10 hL (.nil (μ := μ))
      have g1 : w = w' := by simpa [Go.storeCells] using g1
      subst g1
      refine ⟨.int .i64 (Int.ofNat (Nat.min sn 0)), w, μ', ?_, .int _ _, g2, g3⟩
      rw [hmin]
      unfold Builtin.copy_
      simp [run_underlying hu, hsn, hz, k1', goInt, Go.storeCells]
  | str _ => cases h7
  | _ => cases h2

theorem clearOp_ok {E : Env} (ok : EnvOk P E) (r : R ck μ h w) {ts : List TypeId} {ty : TypeId} {s : AV} {rs : Value} {more : List Value} (hs : VR μ s rs) {nx : Nx}
    (e : (slElem E ts fun _ i => clearOp i s h) = some nx) : VOk P ck μ h w (Builtin.clear_ ⟨ts⟩ ty ⟨rs :: more⟩) nx := by
  obtain ⟨t, rest, el, i, rfl, hu, hi, hsm, h1⟩ := slElem_some ok e
  cases s with
  | nils =>
    cases hs
    have := rV_some (show rV h undef = some nx from h1); subst this
    exact gives_pure r (by simp [Builtin.clear_, run_underlying hu]) (.tup .nil)
  | slice b o n c sz ex =>
    obtain ⟨h2, h3⟩ := bo_some (show bo (Nat.beq i.size sz) _ = some nx from h1)
    obtain ⟨z, h4, h5⟩ := ob_some h3
    obtain ⟨h6, h7⟩ := bo_some h5
    obtain ⟨h', h8, h9⟩ := ob_some h7
    have := rV_some h9; subst this
    rw [llen_eq] at h6
    have hzl : z.cells.length = i.size := Nat.eq_of_beq_eq_true h6
    cases hs with
    | @slice _ L _ _ _ _ _ rcap hL q1 q2 q3 q4 =>
      obtain ⟨q, v, p1, p2, p3, p4⟩ := zero_conv hi h4
      have hcv : VRs μ z.cells v.cells.toList := p3 ▸ conv_cells μ v
      rw [lrep_eq] at h8
      have hall : VRs μ (List.replicate n z.cells).flatten (Builtin.zeroCells v.cells n).toList := by
        unfold Builtin.zeroCells
        rw [zeros_toList]; exact hcv.replicate n
      obtain ⟨w', μ', g1, g2, g3⟩ := storeCells_ok (P := P) r h8 hL hall
      have hzr : (zeroValue el).run P w = .ok v w := by simp [zeroValue, run_typeInfo' p1, p2]
      refine ⟨.tuple #[], w', μ', ?_, .tup .nil, g2, g3⟩
      unfold Builtin.clear_
      cases n with
      | zero =>
        have : (Builtin.zeroCells v.cells 0).toList = [] := by simp [Builtin.zeroCells]
        rw [this] at g1
        have g1 : w = w' := by simpa [Go.storeCells] using g1
        subst g1
        simp [run_underlying hu]
      | succ n => simp [run_underlying hu, hzr, g1]
    | @sliceE _ L _ _ _ a hL =>
      obtain ⟨w', μ', g1, g2, g3⟩ := storeCells_ok (P := P) (rvs := []) r h8 hL (by rw [lrep_eq]; exact .nil)
      have g1 : w = w' := by simpa [Go.storeCells] using g1
      subst g1
      exact ⟨.tuple #[], w, μ', by simp [Builtin.clear_, run_underlying hu], .tup .nil, g2, g3⟩
  | _ => cases h1

theorem maxOp_ok (r : R ck μ h w) {ts : Array TypeId} {ty : TypeId} {a b : AV} {ra rb : Value} (ha : VR μ a ra) (hb : VR μ b rb) {nx : Nx} (e : maxOp a b h = some nx) : VOk P ck μ h w (Builtin.max_ ts ty ⟨[ra, rb]⟩) nx := by
  obtain ⟨k, x, rfl, h1⟩ := asInt_some e
  obtain ⟨j, y, rfl, h2⟩ := asInt_some h1
  have := rV_some h2; subst this
  cases ha; cases hb
  rw [ilt_eq]
  refine gives_pure r (rv := .int k (if y > x then y else x)) (by simp [Builtin.max_, Builtin.max2]) ?_
  by_cases hxy : x < y
  · rw [if_pos hxy, decide_eq_true hxy]; exact .int _ _
  · rw [if_neg hxy, decide_eq_false hxy]; exact .int _ _
theorem minOp_ok (r : R ck μ h w) {ts : Array TypeId} {ty : TypeId} {a b : AV} {ra rb : Value} (ha : VR μ a ra) (hb : VR μ b rb) {nx : Nx} (e : minOp a b h = some nx) : VOk P ck μ h w (Builtin.min_ ts ty ⟨[ra, rb]⟩) nx := by
  obtain ⟨k, x, rfl, h1⟩ := asInt_some e
  obtain ⟨j, y, rfl, h2⟩ := asInt_some h1
  have := rV_some h2; subst this
  cases ha; cases hb
  rw [ilt_eq]
  refine gives_pure r (rv := .int k (if y < x then y else x)) (by simp [Builtin.min_, Builtin.min2]) ?_
  by_cases hxy : y < x
  · rw [if_pos hxy, decide_eq_true hxy]; exact .int _ _
  · rw [if_neg hxy, decide_eq_false hxy]; exact .int _ _

theorem lenT_ok {E : Env} (ok : EnvOk P E) (r : R ck μ h w) {t : TypeId} {ts : List TypeId} {ty : TypeId} {a : AV} {ra : Value} {more : List Value} (ha : VR μ a ra) {nx : Nx} (e : lenT (tyk E t) a h = some nx) : VOk P ck μ h w (Builtin.len_ ⟨t :: ts⟩ ty ⟨ra :: more⟩) nx := by
  cases ht : tyk E t with
  | string =>
    rw [ht] at e
    have hu := und_string ok ht
    obtain ⟨s, rfl, h1⟩ := asStr_some e
    rw [rN_eq] at h1
    cases h1
    cases ha with
    | str bs =>
      refine gives_pure r (rv := goInt bs.size) (by simp [Builtin.len_, run_underlying hu]) ?_
      rw [llen_eq, List.length_map]
      exact .int _ _
  | slice el =>
    rw [ht] at e
    have hu := und_slice ok ht
    cases ha with
    | nils =>
      rw [show lenT (.slice el) .nils h = rN h 0 from rfl, rN_eq] at e
      cases e
      exact gives_pure r (rv := goInt 0) (by simp [Builtin.len_, run_underlying hu]) (.int _ _)
    | @slice b L o len cap sz ex rcap hL =>
      rw [show lenT (.slice el) (.slice b o len cap sz ex) h = rN h len from rfl, rN_eq] at e
      cases e
      exact gives_pure r (rv := goInt len) (by simp [Builtin.len_, run_underlying hu]) (.int _ _)
    | @sliceE b L o sz ex a hL =>
      rw [show lenT (.slice el) (.slice b o 0 0 sz ex) h = rN h 0 from rfl, rN_eq] at e
      cases e
      exact gives_pure r (rv := goInt 0) (by simp [Builtin.len_, run_underlying hu]) (.int _ _)
    | _ => cases e
  | map kt el =>
    rw [ht] at e
    have hu := und_map ok ht
    cases ha with
    | nilm =>
      rw [show lenT (.map kt el) .nilm h = rN h 0 from rfl, rN_eq] at e
      cases e
      exact gives_pure r (rv := goInt 0) (by simp [Builtin.len_, run_underlying hu]) (.int _ _)
    | @map b L hL =>
      obtain ⟨es, c, h1, h2⟩ := asMap_some (show asMap (h.t.get b) _ = some nx from e)
      rw [rN_eq, llen_eq] at h2
      cases h2
      obtain ⟨res, g1, g2, g3, g4⟩ := asMap_real (P := P) r h1 hL
      refine gives_pure r (rv := goInt res.size) (by simp [Builtin.len_, run_underlying hu, g4]) ?_
      rw [← g2.length]
      exact .int _ _
    | _ => cases e
  | _ => rw [ht] at e; cases e

theorem capOp_ok {E : Env} (ok : EnvOk P E) (r : R ck μ h w) {ts : List TypeId} {ty : TypeId} {a : AV} {ra : Value} {more : List Value} (ha : VR μ a ra) {nx : Nx} (e : (slElem E ts fun _ _ => capOp a h) = some nx) : VOk P ck μ h w (Builtin.cap_ ⟨ts⟩ ty ⟨ra :: more⟩) nx := by
  obtain ⟨t, rest, el, i, rfl, hu, hi, hsm, h1⟩ := slElem_some ok e
  cases ha with
  | nils =>
    rw [show capOp .nils h = rN h 0 from rfl, rN_eq] at h1
    cases h1
    exact gives_pure r (rv := goInt 0) (by simp [Builtin.cap_, run_underlying hu]) (.int _ _)
  | @slice b L o len cap sz ex rcap hL q1 q2 q3 =>
    obtain ⟨h2, h3⟩ := bo_some (show bo ex (rN h cap) = some nx from h1)
    rw [rN_eq] at h3
    cases h3
    refine gives_pure r (rv := goInt rcap) (by simp [Builtin.cap_, run_underlying hu]) ?_
    rw [q3 h2]
    exact .int _ _
  | @sliceE b L o sz ex a hL =>
    obtain ⟨h2, h3⟩ := bo_some (show bo ex (rN h 0) = some nx from h1)
    rw [rN_eq] at h3
    cases h3
    exact gives_pure r (rv := goInt 0) (by simp [Builtin.cap_, run_underlying hu]) (.int _ _)
  | _ => cases h1

theorem und_plain {E : Env} (ok : EnvOk P E) {t : TypeId} {k : TK} (h : tyk E t = k) (h1 : k ≠ .iface) (h2 : k ≠ .other) : ∃ d, P.underlying t = some d ∧ ∀ a, d ≠ .interface a := by
  obtain ⟨_, d, _, _, _, g2, g3⟩ := und_of ok h h2
  refine ⟨d, g2, fun a e => ?_⟩
  subst e
  exact h1 g3.symm

theorem assert_run {t u : TypeId} {d : TypeDesc} (hu : P.underlying t = some d) (hd : ∀ a, d ≠ .interface a) (v : Value) (ok : Bool) : (Instr.typeAssert (.iface t v) u t ok).run P w = .ok (if ok then .tuple #[v, .bool true] else v) w := by
  cases d <;> first | exact absurd rfl (hd _) | simp [Instr.typeAssert, run_underlying hu]

theorem assertOp_ok {E : Env} (ok : EnvOk P E) (r : R ck μ h w) {x : AV} {rx : Value} (hx : VR μ x rx) {t u : TypeId} {cok : Bool} {nx : Nx} (e : assertOp E x t cok h = some nx) : VOk P ck μ h w (Instr.typeAssert rx u t cok) nx := by
  have key : ∀ k, tyk E t = k → k ≠ .iface → k ≠ .other → (@AV.rec (fun _ => Option Nx) (fun _ => PUnit) (fun _ => none) (fun _ _ => none) (fun _ => none) none (fun _ _ => none) none (fun _ _ _ _ _ _ => none) none (fun _ => none) none (fun _ _ _ _ _ => none) (fun _ => none) none (fun t' v _ => bo (Nat.beq t' t) (rV h (Bool.rec v (.tup [v, .bool true]) cok))) (fun _ _ => none) (fun _ _ => none) (fun _ => none) none (fun _ _ _ _ _ => none) ⟨⟩ (fun _ _ _ _ => ⟨⟩) x) = some nx → VOk P ck μ h w (Instr.typeAssert rx u t cok) nx := by
    intro k hk h1 h2 h3
    obtain ⟨d, g1, g2⟩ := und_plain ok hk h1 h2
    cases hx with
    | @iface t' v rv hv =>
      obtain ⟨h4, h5⟩ := bo_some h3
      have h4 : t' = t := Nat.eq_of_beq_eq_true h4
      subst h4
      have := rV_some h5; subst this
      refine gives_pure r (assert_run g1 g2 rv cok) ?_
      cases cok
      · exact hv
      · exact .tup (.cons hv (.cons (.bool _) .nil))
    | _ => cases h3
  unfold assertOp at e
  cases hk : tyk E t with
  | iface => rw [hk] at e; cases e
  | other => rw [hk] at e; cases e
  | _ => rw [hk] at e; exact key _ hk (by simp) (by simp) e
end
end LA

namespace LA
open Go hiding Loc

section
variable {P : Program} {ck : Chk} {μ : Mu} {h : AH} {w : World}

theorem isU8_ok {E : Env} (ok : EnvOk P E) {e : TypeId} (h : isU8 E e = true) : P.underlying e = some (.int .u8) := by
  have key : ∀ k, tyk E e = k → (@TK.rec (fun _ => Bool) false (fun k => kEq k .u8) false (fun _ => false) (fun _ => false) (fun _ _ => false) (fun _ _ => false) (fun _ => false) false false false false k) = true → P.underlying e = some (.int .u8) := by
    intro k hk hh
    cases k with
    | int j =>
      have : j = .u8 := (kEq_iff j .u8).1 hh
      subst this
      exact und_int ok hk
    | _ => cases hh
  exact key _ rfl h

theorem bytes_vrs (s : ByteArray) : VRs μ (bytesV (nats s)) (s.data.map fun b => Value.int .u8 b.toNat).toList := by
  rw [bytesV_eq, Array.toList_map]
  unfold nats
  rw [List.map_map]
  generalize s.data.toList = l
  induction l with
  | nil => exact .nil
  | cons b l ih => exact .cons (.int _ _) ih

theorem u8Of_some {v : AV} {n : Nat} (e : u8Of v = some n) : v = .int .u8 (Int.ofNat n) ∧ n < 256 := by
  obtain ⟨k, m, rfl, h1⟩ := asInt_some e
  obtain ⟨h2, h3⟩ := bo_some h1
  have : k = .u8 := (kEq_iff k .u8).1 h2
  subst this
  obtain ⟨k', m', h4, h5⟩ := asNat_some h3
  obtain ⟨h6, h7⟩ := bo_some h5
  cases h7
  injection h4 with h4 h8
  subst h8
  exact ⟨rfl, Nat.le_of_ble_eq_true h6⟩

theorem u8s_ok : ∀ {cs : List AV} {s : List Nat} {rcs : List Value}, lmapO u8Of cs = some s → VRs μ cs rcs → rcs = s.map (fun n => Value.int .u8 (Int.ofNat n)) ∧ ∀ n ∈ s, n < 256
  | [], _, _, e, .nil => by cases e; exact ⟨rfl, fun _ h => by cases h⟩
  | c :: cs, s, _, e, .cons a b => by
    obtain ⟨n, h1, h2⟩ := ob_some (show ob (u8Of c) (fun y => ob (lmapO u8Of cs) fun ys => some (y :: ys)) = some s from e)
    obtain ⟨l, h3, h4⟩ := ob_some h2
    cases h4
    obtain ⟨rfl, h5⟩ := u8Of_some h1
    obtain ⟨rfl, h6⟩ := u8s_ok h3 b
    cases a
    refine ⟨rfl, fun m hm => ?_⟩
    rcases List.mem_cons.1 hm with h | h
    · subst h; exact h5
    · exact h6 m h

theorem push_bytes : ∀ (s : List Nat) (r : ByteArray), (∀ n ∈ s, n < 256) → nats ((s.map (fun n => Int.ofNat n)).foldl (fun r n => r.push (UInt8.ofNat n.toNat)) r) = nats r ++ s
  | [], r, _ => by simp
  | n :: s, r, h => by
    rw [List.map_cons, List.foldl_cons, push_bytes s _ (fun m hm => h m (List.mem_cons_of_mem _ hm))]
    have hn := h n List.mem_cons_self
    have : nats (r.push (UInt8.ofNat (Int.ofNat n).toNat)) = nats r ++ [n] := by
      unfold nats
      rw [ByteArray.data_push, Array.toList_push, List.map_append]
      congr 1
      show [(UInt8.ofNat n).toNat] = [n]
      rw [UInt8.toNat_ofNat', Nat.mod_eq_of_lt hn]
    rw [this, List.append_assoc]
    rfl

theorem convSl_ok {E : Env} (ok : EnvOk P E) (r : R ck μ h w) {s d : TypeId} {x : AV} {rx : Value} (hx : VR μ x rx) (hsl : (∃ a l c, rx = .slice a l c)) {nx : Nx} (e : convSl E s d x h = some nx) : VOk P ck μ h w (Go.convert s d rx) nx := by
  obtain ⟨el, h1, h2⟩ := asSl_some e
  have hu := und_slice ok h1
  obtain ⟨h3, h4⟩ := bo_some h2
  have h3 := (Bool.and_eq_true _ _).mp h3
  have he := isU8_ok ok h3.1
  have hd := und_string ok (isStrK_some h3.2)
  obtain ⟨n, h5, h6⟩ := ob_some h4
  obtain ⟨cs, h7, h8⟩ := ob_some h6
  obtain ⟨l, h9, h10⟩ := ob_some h8
  have := rV_some h10; subst this
  have hn := lenOf_ok (P := P) h5 hx
  obtain ⟨rcs, k1, k2, k3⟩ := firstCells_ok (P := P) r h7 hx
  obtain ⟨rfl, k4⟩ := u8s_ok h9 k2
  obtain ⟨a, len, c, rfl⟩ := hsl
  have hlen : len = n := by
    have := hn w
    simpa [Builtin.lenOf] using this
  subst hlen
  have hrun := run_convert_bytes_string (P := P) w s d el a len c hu he hd
  cases a with
  | none =>
    have hl : l = [] := by
      have := k1 w rfl
      simp only [Builtin.firstCells, Sem.run_pure, Result.ok.injEq, and_true] at this
      have := congrArg Array.toList this
      simpa using this.symm
    subst hl
    refine gives_pure r (rv := .string ByteArray.empty) ?_ (.str ByteArray.empty)
    rw [hrun]; simp [Conv.bytesToString]
  | some a =>
    have hk := k1 w rfl
    simp only [Builtin.firstCells, Nat.mul_one] at hk
    have hb := run_bytesToString (P := P) w a len c (l.map fun n => Int.ofNat n) (by rw [hk, List.map_map]; rfl)
    refine gives_pure r (hrun.trans hb) ?_
    exact vr_str (by rw [push_bytes l _ k4]; simp [nats])

theorem convOp_ok {E : Env} (ok : EnvOk P E) (r : R ck μ h w) {s d : TypeId} {x : AV} {rx : Value} (hx : VR μ x rx) {nx : Nx} (e : LA.convOp E s d x h = some nx) : VOk P ck μ h w (Go.convert s d rx) nx := by
  cases x with
  | int k n =>
    cases hx
    obtain ⟨i, h1, h2⟩ := ob_some (show ob (ti E s) (fun _ => convInt (tyk E d) n h) = some nx from e)
    obtain ⟨_, sd, _, hs, _⟩ := (ti_some ok h1).info
    cases hk : tyk E d with
    | int j =>
      rw [hk] at h2
      obtain ⟨v, h3, rfl⟩ := rO_some (show rO h (rI j n) = some nx from h2)
      rw [rI_eq] at h3
      cases h3
      have hd := und_int ok hk
      exact gives_pure r (rv := .int j (j.wrap n)) (by cases sd <;> simp [Go.convert, run_underlying hs, run_underlying hd, Conv.intToInt]) (.int _ _)
    | _ => rw [hk] at h2; cases h2
  | ab k lo hi m r0 =>
    cases hx with
    | ab _ n _ _ _ _ a1 a2 a3 a4 =>
    obtain ⟨i, h1, h2⟩ := ob_some (show ob (ti E s) (fun _ => convAb (tyk E d) lo hi m r0 h) = some nx from e)
    obtain ⟨_, sd, _, hs, _⟩ := (ti_some ok h1).info
    unfold convAb at h2
    cases hk : tyk E d with
    | int j =>
      rw [hk] at h2
      obtain ⟨v, h3, rfl⟩ := rO_some (show rO h (mkAb j lo hi m r0) = some nx from h2)
      obtain ⟨rfl, b1, b2⟩ := mkAb_some h3
      have hd := und_int ok hk
      have hw : j.wrap n = n := wrap_mid b1 b2 a1 a2
      exact gives_pure r (rv := .int j (j.wrap n)) (by cases sd <;> simp [Go.convert, run_underlying hs, run_underlying hd, Conv.intToInt]) (by rw [hw]; exact .ab j n lo hi m r0 a1 a2 a3 hw)
    | _ => rw [hk] at h2; cases h2
  | str l =>
    obtain ⟨bs, rfl, rfl⟩ := vr_str_inv hx
    obtain ⟨h1, h2⟩ := bo_some (show bo (isStrK (tyk E s)) _ = some nx from e)
    have hs := und_string ok (isStrK_some h1)
    cases hk : tyk E d with
    | string =>
      rw [hk] at h2
      have := rV_some h2; subst this
      have hd := und_string ok hk
      exact gives_pure r (rv := .string bs) (by simp [Go.convert, run_underlying hs, run_underlying hd]) hx
    | slice el =>
      rw [hk] at h2
      obtain ⟨h3, h4⟩ := bo_some h2
      have hd := und_slice ok hk
      have he := isU8_ok ok h3
      rw [newRow_eq] at h4
      have := rV_some h4; subst this
      have hrun := run_bytes_of_string (P := P) w s d el bs hs hd he
      have hcap : bs.size ≤ grownCap w bs.size 0 el := by simp [grownCap, Question.cut]
      have hl : llen (nats bs) = bs.size := by rw [llen_eq, nats_length]
      rw [hl]
      have hrow : bytesRow bs (grownCap w bs.size 0 el) = ⟨(bs.data.map fun b => Value.int .u8 b.toNat).toList ++ List.replicate (grownCap w bs.size 0 el - bs.size) (.int .u8 0)⟩ := by
        apply Array.ext'
        simp [bytesRow]
      have hsz : (bytesRow bs (grownCap w bs.size 0 el)).size = grownCap w bs.size 0 el := by
        rw [hrow]
        simp
        omega
      refine grow_ok (fr := ((bytesRow bs (grownCap w bs.size 0 el)).size, (bytesRow bs (grownCap w bs.size 0 el)).size + 1)) (rest := List.replicate (grownCap w bs.size 0 el - bs.size) (.int .u8 0)) r (bytes_vrs bs) ?_ hcap (by simp) ?_ ?_ (e := el)
      · rw [bytesV_eq, List.length_map, nats_length, Nat.mul_one]
      · intro o ho
        rw [hsz]
        omega
      · rw [hrun]
        rw [← hrow]
    | _ => rw [hk] at h2; cases h2
  | nils =>
    have e : convSl E s d .nils h = some nx := e
    cases hx
    exact convSl_ok ok r .nils ⟨_, _, _, rfl⟩ e
  | slice b o l c z ex =>
    have e : convSl E s d (.slice b o l c z ex) h = some nx := e
    have hx' := hx
    cases hx <;> exact convSl_ok ok r hx' ⟨_, _, _, rfl⟩ e
  | _ => cases e
end
end LA

namespace LA
open Go hiding Loc

section
variable {P : Program} {ck : Chk} {μ : Mu} {h : AH} {w : World}

theorem arg1_some {as : List AV} {K : AV → Option Nx} {nx : Nx} (e : arg1 as K = some nx) : ∃ a r, as = a :: r ∧ K a = some nx := by
  cases as with
  | nil => cases e
  | cons a r => exact ⟨a, r, rfl, e⟩
theorem arg2_some {as : List AV} {K : AV → AV → Option Nx} {nx : Nx} (e : arg2 as K = some nx) : ∃ a b r, as = a :: b :: r ∧ K a b = some nx := by
  cases as with
  | nil => cases e
  | cons a r => cases r with
    | nil => cases e
    | cons b r => exact ⟨a, b, r, rfl, e⟩
theorem arg2x_some {as : List AV} {K : AV → AV → Option Nx} {nx : Nx} (e : arg2x as K = some nx) : ∃ a b, as = [a, b] ∧ K a b = some nx := by
  cases as with
  | nil => cases e
  | cons a r => cases r with
    | nil => cases e
    | cons b r => cases r with
      | nil => exact ⟨a, b, rfl, e⟩
      | cons _ _ => cases e
theorem arg0T_some {β : Type} {ts : List TypeId} {K : TypeId → Option β} {r : β} (e : arg0T ts K = some r) : ∃ t rest, ts = t :: rest ∧ K t = some r := by
  cases ts with
  | nil => cases e
  | cons t rest => exact ⟨t, rest, rfl, e⟩

theorem builtinOp_ok {E : Env} (ok : EnvOk P E) (r : R ck μ h w) {b : Builtin} {ts : List TypeId} {ty : TypeId} {cs : Array Bool} {as : List AV} {ras : List Value} (ha : VRs μ as ras) {nx : Nx} (e : builtinOp b E ts as h = some nx) :
    NxOk P ck μ h w (Go.builtin b ⟨ts⟩ ty cs ⟨ras⟩) nx := by
  cases b with
  | len =>
    obtain ⟨a, rest, rfl, h1⟩ := arg1_some (show arg1 as _ = some nx from e)
    obtain ⟨t, tr, rfl, h2⟩ := arg0T_some h1
    cases ha with
    | cons a1 a2 => exact (lenT_ok ok r a1 h2).next
  | cap =>
    obtain ⟨a, rest, rfl, h1⟩ := arg1_some (show arg1 as _ = some nx from e)
    cases ha with
    | cons a1 a2 => exact (capOp_ok ok r a1 h1).next
  | append =>
    obtain ⟨a, b, rest, rfl, h1⟩ := arg2_some (show arg2 as _ = some nx from e)
    cases ha with
    | cons a1 a2 => cases a2 with
      | cons a2 a3 => exact (appendOp_ok ok r a1 a2 h1).next
  | copy =>
    obtain ⟨a, b, rest, rfl, h1⟩ := arg2_some (show arg2 as _ = some nx from e)
    cases ha with
    | cons a1 a2 => cases a2 with
      | cons a2 a3 => exact (copyOp_ok ok r a1 a2 h1).next
  | clear =>
    obtain ⟨a, rest, rfl, h1⟩ := arg1_some (show arg1 as _ = some nx from e)
    cases ha with
    | cons a1 a2 => exact (clearOp_ok ok r a1 h1).next
  | delete =>
    obtain ⟨a, b, rest, rfl, h1⟩ := arg2_some (show arg2 as _ = some nx from e)
    obtain ⟨t, tr, rfl, h2⟩ := arg0T_some h1
    obtain ⟨kt, el, h3, h4⟩ := asMapT_some h2
    cases ha with
    | cons a1 a2 => cases a2 with
      | cons a2 a3 => exact (deleteOp_ok ok r (und_map ok h3) a1 a2 h4).next
  | min =>
    obtain ⟨a, b, rfl, h1⟩ := arg2x_some (show arg2x as _ = some nx from e)
    cases ha with
    | cons a1 a2 => cases a2 with
      | cons a2 a3 => cases a3; exact (minOp_ok r a1 a2 h1).next
  | max =>
    obtain ⟨a, b, rfl, h1⟩ := arg2x_some (show arg2x as _ = some nx from e)
    cases ha with
    | cons a1 a2 => cases a2 with
      | cons a2 a3 => cases a3; exact (maxOp_ok r a1 a2 h1).next
  | _ => cases e

theorem callV_ok (_r : R ck μ h w) {v : AV} {rv : Value} (hv : VR μ v rv) {as : List AV} {ras : List Value} (ha : VRs μ as ras) {nx : Nx} (e : callV v as h = some nx) :
    NxOk P ck μ h w (do let d ← Deferred.ofValue rv ⟨ras⟩; invoke d.target d.args) nx := by
  cases hv with
  | @func f fs cs rfs rcs h1 h2 =>
    cases e
    rw [lapp_eq, lapp_eq]
    refine ⟨rfl, rfs ++ (ras ++ rcs), ?_, h1.append (ha.append h2)⟩
    simp [Deferred.ofValue, invoke]
  | @yield l L hl =>
    cases e
    refine ⟨rfl, L, ras, hl, ?_, ha⟩
    simp [Deferred.ofValue, invoke]
  | _ => cases e

theorem arr_map {α β : Type} (f : α → β) (a : Array α) : a.map f = ⟨a.toList.map f⟩ := Array.ext' (by simp)

theorem evo_ok {ts : T AV} {tmps : Array Value} (tr : TsR μ ts tmps) (d : List Deferred) (x : Option Operand) : OV μ (evo ts x) (x.map (Act.eval ⟨tmps, d⟩)) := by
  cases x with
  | none => trivial
  | some x => exact evalO_ok tr d x

theorem upd_next {s : Sem Unit} {nx : Nx} (e : ∃ h', nx = .val LA.undef h' ∧ GivesU P ck μ h w s h') : NxOk P ck μ h w (do s; pure .skip) nx := by
  obtain ⟨h', rfl, g⟩ := e
  exact g.next

theorem rO_ok {s : Sem Value} {v : Option AV} {nx : Nx} (r : R ck μ h w) (e : rO h v = some nx) (k : ∀ a, v = some a → ∃ rv, s.run P w = .ok rv w ∧ VR μ a rv) : VOk P ck μ h w s nx := by
  obtain ⟨a, h1, rfl⟩ := rO_some e
  obtain ⟨rv, g1, g2⟩ := k a h1
  exact gives_pure r g1 g2

theorem makeMap_ok' {E : Env} (ok : EnvOk P E) (r : R ck μ h w) {t : TypeId} {x : Option AV} {rx : Option Value} (o : OV μ x rx) {nx : Nx} (e : bo (resOk E t x) (LA.alloc h (.map [] 0) (fun b h => rV h (.map b))) = some nx) : VOk P ck μ h w (Instr.makeMap t rx) nx := by
  obtain ⟨h1, h2⟩ := bo_some e
  have k := makeMap_ok (P := P) (t := t) r h2
  cases x with
  | none => cases rx with
    | none => exact k
    | some _ => exact o.elim
  | some v => cases rx with
    | none => exact o.elim
    | some rv =>
      have h1 : @Option.rec Bool (fun _ => Bool) false (fun b => b) (asMapT (tyk E t) fun _ _ => asInt v fun _ _ => some true) = true := h1
      cases hm : (asMapT (tyk E t) fun _ _ => asInt v fun _ _ => some true) with
      | none => rw [hm] at h1; cases h1
      | some b =>
        obtain ⟨kt, el, g1, g2⟩ := asMapT_some hm
        obtain ⟨k0, n, rfl, _⟩ := asInt_some g2
        have o : VR μ (.int k0 n) rv := o
        cases o
        have hu := und_map ok g1
        have : (Instr.makeMap t (some (.int k0 n))).run P w = (Instr.makeMap t none).run P w := by simp [Instr.makeMap, run_underlying hu, Go.asInt, Go.asIntOf]
        cases nx with
        | val v h' =>
          obtain ⟨rv, w', μ', q1, q2⟩ := k
          exact ⟨rv, w', μ', this.trans q1, q2⟩
        | _ => exact k.elim

theorem nilCk_run {ρ : Operand → Value} {o : Oper} {x : Operand} (ho : o.op = .nilCheck x) {v : AV} (hv : VR μ v (ρ x)) {nx : Nx} (e : nilCk v h = some nx) : nx = .val v h ∧ execOp ρ o = pure (.value (ρ x)) := by
  unfold execOp
  rw [ho]
  dsimp only
  generalize ρ x = rv at hv
  cases hv with
  | nilp => cases e
  | nili => cases e
  | nilf => cases e
  | junk => cases e
  | _ => exact ⟨rV_some e, rfl⟩

theorem aop_ok {E : Env} (ok : EnvOk P E) (r : R ck μ h w) {ts : T AV} {tmps : Array Value} (tr : TsR μ ts tmps) (d : List Deferred) (o : Oper) {nx : Nx} (e : aop o.op E ts h = some nx) : NxOk P ck μ h w (execOp (Act.eval ⟨tmps, d⟩) o) nx := by
  have ev := fun x => evalO_ok tr d x
  have eo := fun x => evo_ok tr d x
  obtain ⟨dst, op, ty, pos, after, guard⟩ := o
  have pure_ok : ∀ {a : AV} {ra : Value}, VR μ a ra → rV h a = some nx → NxOk P ck μ h w (pure (.value ra)) nx := by
    intro a ra ha hn
    have := rV_some hn; subst this
    exact ⟨w, μ, ra, .inl rfl, ha, r, Ext.refl _ _ _⟩
  cases op with
  | move x => exact pure_ok (ev x) e
  | assign x => exact pure_ok (ev x) e
  | pick c a b =>
    have k := (pickOp_ok (P := P) r (ev c) (ev a) (ev b) e).next
    cases nx with
    | val v h' =>
      obtain ⟨w', μ', rv, q1, q2⟩ := k
      refine ⟨w', μ', rv, ?_, q2⟩
      rcases q1 with q1 | ⟨q1, _⟩
      · left; rw [← q1]; simp only [execOp, Sem.run_bind, Sem.run_pure]
        cases hb : (Go.asBool (Act.eval ⟨tmps, d⟩ c)).run P w <;> rfl
      · simp only [Sem.run_bind, Sem.run_pure] at q1
        cases hb : (Go.asBool (Act.eval ⟨tmps, d⟩ c)).run P w <;> rw [hb] at q1 <;> cases q1
    | _ => obtain ⟨b, hb, h1⟩ := asBool_some e; cases h1
  | alloc t => exact (allocOp_ok ok r e).next
  | box t x => exact (boxOp_ok r (ev x) e).next
  | build t ps =>
    refine (buildOp_ok ok r (rparts := ps.map fun (i, x) => (i, Act.eval ⟨tmps, d⟩ x)) ?_ e).next
    rw [Array.toList_map]
    exact evp_ok tr d ps.toList
  | buildSlice t n ps =>
    have hp : PRs μ (evp ts ps.toList) (ps.map fun (i, x) => (i, Act.eval ⟨tmps, d⟩ x)).toList := by
      rw [Array.toList_map]
      exact evp_ok tr d ps.toList
    have e' : buildSlOp E t n (evp ts ps.toList) h = some nx := e
    have k := buildSlOp_ok ok r hp e'
    exact k.next
  | load t a => exact (loadOp_ok ok r (ev a) e).next
  | store t a x => exact upd_next (storeOp_ok ok r (ev a) (ev x) e)
  | nilCheck x =>
    obtain ⟨rfl, q⟩ := nilCk_run (ρ := Act.eval ⟨tmps, d⟩) (o := ⟨dst, .nilCheck x, ty, pos, after, guard⟩) rfl (ev x) e
    exact ⟨w, μ, _, .inl (by rw [q]; rfl), ev x, r, Ext.refl _ _ _⟩
  | binOp op t x y c =>
    refine (VOk.next (s := do eqGuard op t x y (Act.eval ⟨tmps, d⟩ x) (Act.eval ⟨tmps, d⟩ y); Go.binOp op t (Act.eval ⟨tmps, d⟩ x) (Act.eval ⟨tmps, d⟩ y)) ?_)
    have e' : rO h (LA.binOp E (Bool.or (isCst x) (isCst y)) op t (evalO ts x) (evalO ts y)) = some nx := e
    refine rO_ok r e' fun a ha => ?_
    exact binOp_ok ok ha (ev x) (ev y)
  | unOp op t x => exact (unOpA_ok r (ev x) e).next
  | convert s t x => exact (convOp_ok ok r (ev x) e).next
  | makeInterface t x => exact (mkIface_ok ok r (ev x) e).next
  | makeFunc fn a b =>
    refine VOk.next (s := Instr.makeFunc fn (a.map (Act.eval ⟨tmps, d⟩)) (b.map (Act.eval ⟨tmps, d⟩))) ?_
    rw [arr_map, arr_map]
    exact mkFunc_ok r (evs_ok tr d a.toList) (evs_ok tr d b.toList) e
  | makeMap t x => exact (makeMap_ok' ok r (eo x) e).next
  | makeSlice t l c => exact (makeSlOp_ok ok r (ev l) (ev c) e).next
  | slice t x lo hi mx => exact (rO_ok r e fun a ha => sliceOp_ok ok r (ev x) (eo lo) (eo hi) (eo mx) ha).next
  | fieldAddr t x f => exact (fieldAd_ok ok r (ev x) e).next
  | field t x f => exact (fieldV_ok ok r (ev x) e).next
  | indexAddr t x i => exact (indexAd_ok ok r (ev x) (ev i) e).next
  | index t x i => exact (indexStr_ok ok r (ev x) (ev i) e).next
  | lookup t x i c => exact (lookupOp_ok ok r (ev x) (ev i) e).next
  | mapUpdate t m k x => exact upd_next (mapUpd_ok ok r (ev m) (ev k) (ev x) e)
  | mapEntry t m k => exact (mapEnt_ok ok r (ev m) (ev k) e).next
  | entryStore t m s x => exact upd_next (entSt_ok r (ev m) (ev s) (ev x) e)
  | range t x => exact (rangeOp_ok ok r (ev x) e).next
  | next i s => exact (nextOp_ok r (ev i) e ty).next
  | entry i => exact (entryOp_ok r (ev i) e).next
  | extract t i => exact (extract_ok r (ev t) e).next
  | typeAssert x s t c => exact (assertOp_ok ok r (ev x) e).next
  | call c =>
    obtain ⟨cal, args, ats⟩ := c
    cases cal with
    | value x =>
      have k := callV_ok (P := P) r (ev x) (evs_ok tr d args.toList) e
      rw [← arr_map] at k
      exact k
    | builtin b =>
      have k := builtinOp_ok (P := P) (ty := ty) (cs := (args.map fun | .const _ => true | _ => false)) ok r (evs_ok tr d args.toList) (show builtinOp b E ats.toList (evs ts args.toList) h = some nx from e)
      rw [← arr_map] at k
      have hrun : ∀ w : World, (execOp (Act.eval ⟨tmps, d⟩) ⟨dst, .call ⟨.builtin b, args, ats⟩, ty, pos, after, guard⟩).run P w = (Go.builtin b ats ty (args.map fun | .const _ => true | _ => false) (args.map (Act.eval ⟨tmps, d⟩))).run P w := by
        intro w; simp [execOp, resolve, invoke]; rfl
      cases nx with
      | val v h' =>
        obtain ⟨w', μ', rv, q1, q2⟩ := k
        refine ⟨w', μ', rv, ?_, q2⟩
        rw [hrun]; exact q1
      | call f as h' =>
        obtain ⟨q1, ra, q2, q3⟩ := k
        exact ⟨q1, ra, (hrun w).trans q2, q3⟩
      | round l as h' =>
        obtain ⟨q1, L, ra, q0, q2, q3⟩ := k
        exact ⟨q1, L, ra, q0, (hrun w).trans q2, q3⟩
    | _ => cases e
  | _ => cases e
end
end LA
