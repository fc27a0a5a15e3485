/-
That run is sound over the model: code, loops over functions, calls.
-/
import Derived.Test.YtcaaikdcbmncmaaGreatDoorC
import Derived.RangeFuncIn
import Derived.RangeFuncLeaves
import Derived.RangeFuncRecord
import Derived.RangeFuncNested
namespace LA
open Go hiding Loc

/-- the marks among a frame's deferred calls -/
def MarksR (lo : Nat) (μ : Mu) (w : World) (ds : List Deferred) : Prop :=
  ∃ rs : List Nat, ds = rs.map (fun r => ({ target := .collected r, args := #[] } : Deferred)) ∧ rs.Nodup ∧
    ∀ r ∈ rs, lo ≤ r ∧ w.heap[r]? = some (.deferred (some [])) ∧ ∀ b L, μ b = some L → L.rb ≠ r

theorem MarksR.ext {lo : Nat} {μ μ' : Mu} {h h' : AH} {w w' : World} (x : Ext μ h w μ' h' w') {ds : List Deferred} (m : MarksR lo μ w ds) : MarksR lo μ' w' ds := by
  obtain ⟨rs, h1, h2, h3⟩ := m
  refine ⟨rs, h1, h2, fun r hr => ?_⟩
  obtain ⟨g1, g2, g3⟩ := h3 r hr
  have hlt := heap_lt g2
  refine ⟨g1, ?_, ?_⟩
  · rw [x.keep r hlt (fun b blk L _ e _ => g3 b L e)]; exact g2
  · intro b L e hL
    rcases x.fresh b L e with k | k | ⟨b0, L0, k1, k2⟩
    · exact g3 b L k hL
    · omega
    · exact g3 b0 L0 k1 (k2.trans hL)

/-- a frame that the walk speaks of -/
def FrOk (b : Frame) (w : World) : Prop := b.kind = .normal ∧ ∀ l, b.roundOf = some l → ∃ r : Loop, w.heap[l]? = some (.loop r)
theorem FrOk.ext {b : Frame} {μ μ' : Mu} {h h' : AH} {w w' : World} (x : Ext μ h w μ' h' w') (f : FrOk b w) : FrOk b w' :=
  ⟨f.1, fun l e => let ⟨r, g⟩ := f.2 l e; x.kind l r g⟩

def Out : Ex → List Item → List Item → Prop
  | .normal, k, k' => k' = k
  | .exit id, k, k' => ∃ k2, k' = .code (.exit id) :: k2 ∧ exitTo id k2 = exitTo id k
  | .ret, _, k' => ∃ k2, k' = .code .ret :: k2
  | .goto _, _, _ => False

structure St (ck : Chk) (lo : Nat) (b : Frame) (μ : Mu) (h : AH) (w : World) (ts : T AV) (a : Act) : Prop where
  r : R ck μ h w
  tr : TsR μ ts a.tmps
  fr : FrOk b w
  mks : MarksR lo μ w a.defers
  lo : lo ≤ w.heap.size

section
variable {P : Program} {ck : Chk}

theorem undef_vr {μ : Mu} : VR μ LA.undef Go.undef := .tup .nil

theorem TsR.put {μ : Mu} {ts : T AV} {a : Act} (r : TsR μ ts a.tmps) {d : Option Nat} {v : AV} {rv : Value} (hv : VR μ v rv) (hd : ∀ x, d = some x → x < a.tmps.size) : TsR μ (LA.put ts d v) (a.put d rv).tmps ∧ (a.put d rv).tmps.size = a.tmps.size ∧ (a.put d rv).defers = a.defers := by
  cases d with
  | none => exact ⟨r, rfl, rfl⟩
  | some x =>
    have hx := hd x rfl
    refine ⟨fun t u e => ?_, by simp [Act.put], rfl⟩
    have e : T.get (T.set ts x v) t = some u := e
    rw [T.get_set] at e
    simp only [Act.put, Array.getD_eq_getD_getElem?, Array.getElem?_setIfInBounds]
    by_cases ht : t = x
    · subst ht
      rw [if_pos rfl] at e
      cases e
      rw [if_pos rfl, if_pos hx]
      exact hv
    · rw [if_neg ht] at e
      rw [if_neg (fun h => ht h.symm)]
      have := r t u e
      rw [Array.getD_eq_getD_getElem?] at this
      exact this

theorem St.put {lo : Nat} {b : Frame} {μ : Mu} {h : AH} {w : World} {ts : T AV} {a : Act} (s : St ck lo b μ h w ts a) {d : Option Nat} {v : AV} {rv : Value} (hv : VR μ v rv) (hd : ∀ x, d = some x → x < a.tmps.size) : St ck lo b μ h w (LA.put ts d v) (a.put d rv) := by
  obtain ⟨h1, _, h3⟩ := s.tr.put hv hd
  exact ⟨s.r, h1, s.fr, h3 ▸ s.mks, s.lo⟩

theorem St.ext {lo : Nat} {b : Frame} {μ μ' : Mu} {h h' : AH} {w w' : World} {ts : T AV} {a : Act} (s : St ck lo b μ h w ts a) (r : R ck μ' h' w') (x : Ext μ h w μ' h' w') : St ck lo b μ' h' w' ts a :=
  ⟨r, s.tr.mono x.mono, s.fr.ext x, s.mks.ext x, Nat.le_trans s.lo x.size⟩

/-- a call of a function by its number: at once (no Go body), or by its body -/
def CallN (P : Program) (ck : Chk) (f : Nat) (rargs : List Value) (μ : Mu) (h : AH) (w : World) (v : AV) (h' : AH) : Prop :=
  (∃ rv w' μ', (callFunc f ⟨rargs⟩).run P w = .ok (.value rv) w' ∧ VR μ' v rv ∧ R ck μ' h' w' ∧ Ext μ h w μ' h' w') ∨
  ((callFunc f ⟨rargs⟩).run P w = .ok (.enter f ⟨rargs⟩) w ∧ ∀ cs, ∃ rv w' μ' fr, Steps P (lone (Frame.enter P f ⟨rargs⟩ .normal) cs w) (lone fr cs w') ∧ fr.leaving P w' (.returned rv) ∧ fr.fn = f ∧ VR μ' v rv ∧ R ck μ' h' w' ∧ Ext μ h w μ' h' w')

def CallsOk (P : Program) (ck : Chk) (call : Nat → List AV → AH → RV) : Prop := ∀ f args h v h', call f args h = .ok v h' → ∀ μ w rargs, R ck μ h w → VRs μ args rargs → CallN P ck f rargs μ h w v h'

def RoundsOk (P : Program) (ck : Chk) (round : Nat → List AV → AH → RV) : Prop := ∀ l args h v h', round l args h = .ok v h' → ∀ μ w rargs L, R ck μ h w → μ l = some L → VRs μ args rargs →
  ∃ fn tmps assign body, (Instr.yield L.rb ⟨rargs⟩).run P w = .ok (.round L.rb fn tmps assign body) w ∧
    ∀ (c : Frame) cs, ∃ rv w' μ', Steps P (lone (Frame.round L.rb fn tmps assign body .normal) (c :: cs) w) (lone (c.finish rv) cs w') ∧ VR μ' v rv ∧ R ck μ' h' w' ∧ Ext μ h w μ' h' w'

theorem gOk_ok {μ : Mu} {ts : T AV} {a : Act} (tr : TsR μ ts a.tmps) {ops : Array Oper} {o : Oper} {g : Bool} (e : gOk ops.toList ts o.guard = some g) (hall : ∀ (j : Nat) (oj : Oper) (d : Nat), ops[j]? = some oj → oj.dst = some d → d < a.tmps.size) : Region.wanted o (yielded ops a.tmps) = g := by
  unfold Region.wanted
  cases hg : o.guard with
  | none => rw [hg] at e; cases e; rfl
  | some p =>
    obtain ⟨j, want⟩ := p
    rw [hg] at e
    obtain ⟨oj, h1, h2⟩ := ob_some (show ob (lget ops.toList j) _ = some g from e)
    obtain ⟨d, h3, h4⟩ := ob_some h2
    obtain ⟨v, h5, h6⟩ := ob_some h4
    rw [lget_eq, Array.getElem?_toList] at h1
    have hv := tr d v h5
    have hd := hall j oj d h1 h3
    have hget : a.tmps[d]? = some (a.tmps.getD d Go.undef) := by
      rw [Array.getD_eq_getD_getElem?, Array.getElem?_eq_getElem hd]; rfl
    have hy : yielded ops a.tmps j = (match a.tmps.getD d Go.undef with | .bool b => some b | _ => none) := by
      unfold yielded
      rw [h1]
      simp only [Option.bind_some, h3, hget]
      cases a.tmps.getD d Go.undef <;> rfl
    dsimp only
    rw [hy]
    generalize a.tmps.getD d Go.undef = rv at hv
    cases hv with
    | bool b =>
      have h6 : some (Bool.rec (motive := fun _ => Bool) (Bool.not want) want b) = some g := h6
      injection h6 with h6
      subst h6
      cases b <;> cases want <;> rfl
    | tup hs =>
      have h6 : some false = some g := h6
      cases h6
      rfl
    | _ => cases h6

theorem opStep_ok {E : Env} (ok : EnvOk P E) {call round : Nat → List AV → AH → RV} (hc : CallsOk P ck call) (hr : RoundsOk P ck round) {lo : Nat} {b : Frame} {μ : Mu} {h : AH} {w : World} {ts : T AV} {a : Act} {ops : Array Oper} {i : Nat} {rest : List Nat} {o : Oper}
    (ho : ops[i]? = some o) (hall : ∀ (j : Nat) (oj : Oper) (d : Nat), ops[j]? = some oj → oj.dst = some d → d < a.tmps.size) {K : T AV → AH → Res} {ex : Ex} {ts' : T AV} {h' : AH} (e : opStep E call round ops.toList o ts K h = .ok ex ts' h') (s : St ck lo b μ h w ts a) (k : List Item) (cs : List Frame) :
    ∃ a1 w1 μ1 ts1 h1, Steps P (lone (b.atR a (.inRegion ops (i :: rest) :: k)) cs w) (lone (b.atR a1 (.inRegion ops rest :: k)) cs w1) ∧ a1.tmps.size = a.tmps.size ∧ St ck lo b μ1 h1 w1 ts1 a1 ∧ Ext μ h w μ1 h1 w1 ∧ K ts1 h1 = .ok ex ts' h' := by
  unfold opStep at e
  cases hg : gOk ops.toList ts o.guard with
  | none => rw [hg] at e; cases e
  | some g =>
    rw [hg] at e
    have hw := gOk_ok s.tr hg hall
    have hd : ∀ x, o.dst = some x → x < a.tmps.size := fun x hx => hall i o x ho hx
    cases g with
    | false =>
      have hs := stepR_op_skip (P := P) (b := b) (a := a) (k := k) (cs := cs) (w := w) (ops := ops) (i := i) (rest := rest) (by simp [ho, hw])
      rw [ho] at hs
      exact ⟨a.put o.dst Go.undef, w, μ, _, h, .one hs, (s.tr.put undef_vr hd).2.1, s.put undef_vr hd, Ext.refl _ _ _, e⟩
    | true =>
      have en : onNx call round ts o.dst K (aop o.op E ts h) = .ok ex ts' h' := e
      clear e
      cases ha : aop o.op E ts h with
      | none => rw [ha] at en; cases en
      | some nx =>
        rw [ha] at en
        have hnd : ∀ c, o.op ≠ .defer c := by
          intro c hc
          rw [hc] at ha
          cases ha
        have hn := aop_ok ok s.r s.tr a.defers o ha
        have hg := stepGR_op (P := P) (b := b) (a := a) (k := k) (cs := cs) (w := w) (rest := rest) ho hw
        rw [Oper.semAt_eq _ _ _ hnd] at hg
        have hfin : ∀ v, (b.atR a (.inRegion ops (i :: rest) :: k)).finish v = b.atR (a.put o.dst v) (.inRegion ops rest :: k) := by
          intro v; rw [Frame.finish_atR, ho]; rfl
        cases nx with
        | val v h1 =>
          obtain ⟨w1, μ1, rv, hrun, hv, r1, x1⟩ := hn
          have s1 := (s.ext r1 x1).put hv hd
          refine ⟨a.put o.dst rv, w1, μ1, _, h1, .one (step_lone_go ?_), ((s.tr.mono x1.mono).put hv hd).2.1, s1, x1, en⟩
          rw [hg, ← hfin]
          rcases hrun with hrun | ⟨hrun, rfl⟩
          · simp [stepG.apply, hrun]
          · simp [stepG.apply, hrun]
        | call f args h1 =>
          obtain ⟨rfl, rargs, hrun, hv⟩ := hn
          have e : afterV ts o.dst K (call f args h1) = .ok ex ts' h' := en
          cases hcl : call f args h1 with
          | fail => rw [hcl] at e; cases e
          | ok v h2 =>
            rw [hcl] at e
            rcases hc f args h1 v h2 hcl μ w rargs s.r hv with ⟨rv, w', μ', c1, c2, c3, c4⟩ | ⟨c1, c2⟩
            · have s1 := (s.ext c3 c4).put c2 hd
              refine ⟨a.put o.dst rv, w', μ', _, h2, .one (step_lone_go ?_), ((s.tr.mono c4.mono).put c2 hd).2.1, s1, c4, e⟩
              rw [hg, ← hfin]
              simp [stepG.apply, hrun, c1]
            · obtain ⟨rv, w', μ', fr, d1, d2, d3, d4, d5, d6⟩ := c2 (b.atR a (.inRegion ops (i :: rest) :: k) :: cs)
              have s1 := (s.ext d5 d6).put d4 hd
              have henter : step P (lone (b.atR a (.inRegion ops (i :: rest) :: k)) cs w) = .next (lone (Frame.enter P f ⟨rargs⟩ .normal) (b.atR a (.inRegion ops (i :: rest) :: k) :: cs) w) :=
                step_lone_go (by rw [hg]; simp [stepG.apply, hrun, c1, Frame.atR])
              refine ⟨a.put o.dst rv, w', μ', _, h2, .head henter (d1.trans (.one ?_)), ((s.tr.mono d6.mono).put d4 hd).2.1, s1, d6, e⟩
              rw [← hfin]
              exact step_leave_returned d2
        | round l args h1 =>
          obtain ⟨rfl, L, rargs, hL, hrun, hv⟩ := hn
          have e : afterV ts o.dst K (round l args h1) = .ok ex ts' h' := en
          cases hcl : round l args h1 with
          | fail => rw [hcl] at e; cases e
          | ok v h2 =>
            rw [hcl] at e
            obtain ⟨fn, tmps, assign, body, c1, c2⟩ := hr l args h1 v h2 hcl μ w rargs L s.r hL hv
            obtain ⟨rv, w', μ', d1, d4, d5, d6⟩ := c2 (b.atR a (.inRegion ops (i :: rest) :: k)) cs
            have s1 := (s.ext d5 d6).put d4 hd
            have henter : step P (lone (b.atR a (.inRegion ops (i :: rest) :: k)) cs w) = .next (lone (Frame.round L.rb fn tmps assign body .normal) (b.atR a (.inRegion ops (i :: rest) :: k) :: cs) w) :=
              step_lone_go (by rw [hg]; simp [stepG.apply, hrun, c1, Frame.atR])
            refine ⟨a.put o.dst rv, w', μ', _, h2, .head henter ?_, ((s.tr.mono d6.mono).put d4 hd).2.1, s1, d6, e⟩
            rw [← hfin]
            exact d1
end
end LA

namespace LA
open Go hiding Loc

section
variable {P : Program} {ck : Chk}

theorem R.outside {μ : Mu} {h : AH} {w : World} (r : R ck μ h w) {rb : Nat} (o : Obj) (hno : ∀ b L, μ b = some L → L.rb ≠ rb) (hfx : ck.fixed rb = none) : R ck μ h (w.putObj rb o) where
  live := r.live
  rel b blk L h1 h2 := (r.rel b blk L h1 h2).keep (Mu.le_refl _) (World.putObj_heap_other (hno b L h2))
  dom b L e := ⟨(r.dom b L e).1, by rw [World.putObj_size]; exact (r.dom b L e).2⟩
  sep := r.sep
  anc := r.anc
  fix q c e := by
    obtain ⟨⟨t, f, f1⟩, f2⟩ := r.fix q c e
    have hne : q ≠ rb := fun e2 => by rw [e2, hfx] at e; cases e
    exact ⟨⟨t, f, by rw [World.putObj_heap_other hne]; exact f1⟩, f2⟩

theorem Ext.outside {μ0 μ : Mu} {h0 h : AH} {w0 w : World} (x : Ext μ0 h0 w0 μ h w) {rb : Nat} (o : Obj) (hge : w0.heap.size ≤ rb) : Ext μ0 h0 w0 μ h (w.putObj rb o) where
  mono := x.mono
  unreal := x.unreal
  next := x.next
  size := by rw [World.putObj_size]; exact x.size
  keep q hq hno := by rw [World.putObj_heap_other (by omega)]; exact x.keep q hq hno
  wrs := x.wrs
  fresh := x.fresh
  kind q r hq := by
    have := heap_lt hq
    obtain ⟨r', h1⟩ := x.kind q r hq
    exact ⟨r', by rw [World.putObj_heap_other (by omega)]; exact h1⟩
  env := x.env

theorem R.allocOut {μ : Mu} {h : AH} {w : World} (r : R ck μ h w) (o : Obj) : R ck μ h (w.alloc o) ∧ Ext μ h w μ h (w.alloc o) := by
  have hold : ∀ i, i < w.heap.size → (w.alloc o).heap[i]? = w.heap[i]? := fun i hi => push_get _ _ _ hi
  constructor
  · exact ⟨r.live, fun b blk L h1 h2 => (r.rel b blk L h1 h2).keep (Mu.le_refl _) (hold _ (r.dom b L h2).2), fun b L e => ⟨(r.dom b L e).1, by have := (r.dom b L e).2; simp; omega⟩, r.sep, r.anc, fun q c e => let ⟨⟨t, f, f1⟩, f2⟩ := r.fix q c e; ⟨⟨t, f, by rw [hold q (heap_lt f1)]; exact f1⟩, f2⟩⟩
  · exact ⟨Mu.le_refl _, fun _ _ e => ⟨e, rfl⟩, Nat.le_refl _, by simp, fun q hq _ => hold q hq, fun b blk L h1 h2 h3 _ => ⟨b, blk, L, h1, h2, h3, rfl⟩, fun _ _ e => .inl e,
      fun q l hq => ⟨l, by rw [hold q (heap_lt hq)]; exact hq⟩, ⟨rfl, rfl, rfl⟩⟩

def markOf (r : Nat) : Deferred := { target := .collected r, args := #[] }

theorem leave_marks {μ0 : Mu} {h0 : AH} {w0 : World} {μ : Mu} {h : AH} : ∀ (rs : List Nat) (w : World) (fr : Frame) (cs : List Frame), fr.mode = .returning → fr.defers = rs.map markOf → rs.Nodup →
    (∀ r ∈ rs, w0.heap.size ≤ r ∧ w.heap[r]? = some (.deferred (some [])) ∧ ∀ b L, μ b = some L → L.rb ≠ r) → R ck μ h w → Ext μ0 h0 w0 μ h w →
    ∃ w', Steps P (lone fr cs w) (lone { fr with defers := [] } cs w') ∧ R ck μ h w' ∧ Ext μ0 h0 w0 μ h w'
  | [], w, fr, cs, hm, hd, _, _, r, x => by
    refine ⟨w, ?_, r, x⟩
    have : ({ fr with defers := [] } : Frame) = fr := by
      obtain ⟨fn, tmps, todo, defers, mode, kind, ro⟩ := fr
      dsimp only at hd
      rw [hd]
      rfl
    rw [this]
    exact .refl _ _
  | r0 :: rs, w, fr, cs, hm, hd, hn, hall, r, x => by
    obtain ⟨g1, g2, g3⟩ := hall r0 List.mem_cons_self
    have ht := run_takeDeferred (P := P) g2
    have hs := step_collected (P := P) (cs := cs) (d := markOf r0) (ds := rs.map markOf) (by rw [hm]; simp) hd rfl ht
    have hn' := List.nodup_cons.1 hn
    obtain ⟨w', k1, k2, k3⟩ := leave_marks (μ0 := μ0) (h0 := h0) (w0 := w0) (μ := μ) (h := h) rs (w.putObj r0 (.deferred none)) { fr with defers := [] ++ rs.map markOf } cs hm rfl hn'.2
      (fun q hq => by
        obtain ⟨q1, q2, q3⟩ := hall q (List.mem_cons_of_mem _ hq)
        refine ⟨q1, ?_, q3⟩
        rw [World.putObj_heap_other (fun e : q = r0 => hn'.1 (e ▸ hq))]
        exact q2) (r.outside _ g3 (by
        cases hf : ck.fixed r0 with
        | none => rfl
        | some c =>
          obtain ⟨⟨t, f, f1⟩, _⟩ := r.fix r0 c hf
          rw [g2] at f1; cases f1)) (x.outside _ g1)
    exact ⟨w', .head hs k1, k2, k3⟩

def resF (tmps : Array Value) : ResultVar → Sem Value
  | .tmp t => pure (tmps.getD t Go.undef)
  | .cell a t => do Go.loadVar t (← Go.asAddr (tmps.getD a Go.undef))

theorem results_ok {E : Env} (ok : EnvOk P E) {μ : Mu} {h : AH} {w : World} (r : R ck μ h w) {ts : T AV} {tmps : Array Value} (tr : TsR μ ts tmps) : ∀ (rs : List ResultVar) (vs : List AV), LA.results E h ts rs = some vs →
    ∃ rvs : List Value, (rs.mapM (resF tmps)).run P w = .ok rvs w ∧ VRs μ vs rvs
  | [], _, e => by cases e; exact ⟨[], rfl, .nil⟩
  | x :: rs, vs, e => by
    obtain ⟨l, h1, h2⟩ := ob_some (show ob (LA.results E h ts rs) _ = some vs from e)
    obtain ⟨rvs, g1, g2⟩ := results_ok ok r tr rs l h1
    have ev := fun t => evalO_ok tr [] (.tmp t)
    cases x with
    | tmp t =>
      cases h2
      refine ⟨tmps.getD t Go.undef :: rvs, ?_, .cons (ev t) g2⟩
      rw [List.mapM_cons]
      simp only [Sem.run_bind, resF, Sem.run_pure, Result.andThen_ok, g1]
    | cell a t =>
      obtain ⟨b, o, h3, h4⟩ := asPtr_some h2
      obtain ⟨v, h5, h6⟩ := ob_some h4
      cases h6
      have ha := ev a
      rw [h3] at ha
      have ha' : VR μ (.ptr b o) (tmps.getD a Go.undef) := ha
      have hx : ∃ L, tmps.getD a Go.undef = .pointer (some ⟨L.rb, L.off + o, none⟩) ∧ μ b = some L := by
        generalize tmps.getD a Go.undef = rv at ha'
        cases ha' with
        | @ptr _ L _ hL => exact ⟨L, rfl, hL⟩
      obtain ⟨L, k1, k2⟩ := hx
      obtain ⟨rv, q1, q2⟩ := loadVar_ok ok r h5 k2
      refine ⟨rv :: rvs, ?_, .cons q2 g2⟩
      rw [List.mapM_cons]
      simp only [Sem.run_bind, resF, Sem.run_pure, Result.andThen_ok, g1, k1, Go.asAddr, q1]

theorem retV_ok {E : Env} (ok : EnvOk P E) {μ : Mu} {h : AH} {w : World} (r : R ck μ h w) {ts : T AV} {tmps : Array Value} (tr : TsR μ ts tmps) {fn : Func} {v : AV} {h' : AH} (e : retV E fn ts h = .ok v h') :
    h' = h ∧ ∃ rv, (Go.results fn tmps).run P w = .ok rv w ∧ VR μ v rv := by
  unfold retV at e
  cases hr : LA.results E h ts fn.results.toList with
  | none => rw [hr] at e; cases e
  | some vs =>
    rw [hr] at e
    obtain ⟨rvs, g1, g2⟩ := results_ok ok r tr _ _ hr
    have hm : (fn.results.mapM (resF tmps)).run P w = .ok ⟨rvs⟩ w := by
      rw [Array.mapM_eq_mapM_toList]
      simp [g1]
    have hrun : (Go.results fn tmps).run P w = .ok (if h : (⟨rvs⟩ : Array Value).size = 1 then (⟨rvs⟩ : Array Value)[0] else .tuple ⟨rvs⟩) w := by
      have : Go.results fn tmps = (do let vs ← fn.results.mapM (resF tmps); pure (if h : vs.size = 1 then vs[0] else .tuple vs)) := by
        unfold Go.results
        rfl
      rw [this]
      simp only [Sem.run_bind, hm, Result.andThen_ok, Sem.run_pure]
    cases g2 with
    | nil => cases e; exact ⟨rfl, _, hrun, .tup .nil⟩
    | cons a b => cases b with
      | nil => cases e; exact ⟨rfl, _, hrun, a⟩
      | cons b c => cases e; exact ⟨rfl, _, hrun, .tup (.cons a (.cons b c))⟩
end
end LA

namespace LA
open Go hiding Loc

section
variable {P : Program} {ck : Chk}

def Goes (P : Program) (ck : Chk) (lo : Nat) (b : Frame) (cs : List Frame) (a : Act) (todo k : List Item) (μ : Mu) (h : AH) (w : World) (ex : Ex) (ts' : T AV) (h' : AH) : Prop :=
  ∃ a' w' μ' k', Steps P (lone (b.atR a todo) cs w) (lone (b.atR a' k') cs w') ∧ Out ex k k' ∧ a'.tmps.size = a.tmps.size ∧ St ck lo b μ' h' w' ts' a' ∧ Ext μ h w μ' h' w'

/-- where a code's walk begins -/
def start : Code → List Item → List Item
  | .loop b, k => .code b :: .inLoop b :: k
  | c, k => .code c :: k

theorem to_start {b : Frame} {a : Act} {c : Code} {k : List Item} {cs : List Frame} {w : World} : Steps P (lone (b.atR a (.code c :: k)) cs w) (lone (b.atR a (start c k)) cs w) := by
  cases c with
  | loop c => exact .one stepR_loop
  | _ => exact .refl _ _

/-- what an operation writes lies within the temporaries -/
def InB (N : Nat) (ops : List Oper) : Prop := ∀ (j : Nat) (oj : Oper) (d : Nat), ops[j]? = some oj → oj.dst = some d → d < N

def DrawOk (P : Program) (ck : Chk) (E : Env) : Prop := ∀ call round, CallsOk P ck call → RoundsOk P ck round → ∀ fid id (ops : Array Oper) hs, hintOf E fid id = some hs → ck fid id ops.toList = true →
  ∀ ts h ex ts' h', drawF E call round ops.toList hs [] ts h = .ok ex ts' h' → ∀ lo b cs (a : Act) k μ w, b.fn = fid → InB a.tmps.size ops.toList → St ck lo b μ h w ts a → Goes P ck lo b cs a (.code (.region id ops true) :: k) k μ h w ex ts' h'

def ExecS (P : Program) (ck : Chk) (x : CodeF) : Prop := ∀ fid c ts h ex ts' h', x fid c ts h = .ok ex ts' h' → ∀ lo b cs (a : Act) k μ w, b.fn = fid → codeB (ck fid) a.tmps.size c = true → St ck lo b μ h w ts a → Goes P ck lo b cs a (start c k) k μ h w ex ts' h'

/-- from the code itself -/
theorem ExecS.code {x : CodeF} (i : ExecS P ck x) {fid : Nat} {c : Code} {ts : T AV} {h : AH} {ex : Ex} {ts' : T AV} {h' : AH} (e : x fid c ts h = .ok ex ts' h') {lo : Nat} {b : Frame} (cs : List Frame) {a : Act} (k : List Item) {μ : Mu} {w : World} (hb : b.fn = fid) (hc : codeB (ck fid) a.tmps.size c = true) (s : St ck lo b μ h w ts a) : Goes P ck lo b cs a (.code c :: k) k μ h w ex ts' h' := by
  obtain ⟨a', w', μ', k', h1, h2⟩ := i fid c ts h ex ts' h' e lo b cs a k μ w hb hc s
  exact ⟨a', w', μ', k', to_start.trans h1, h2⟩

theorem opsF_ok {E : Env} (ok : EnvOk P E) {call round : Nat → List AV → AH → RV} (hc : CallsOk P ck call) (hr : RoundsOk P ck round) {lo : Nat} {b : Frame} {ops : Array Oper} (k : List Item) (cs : List Frame) :
    ∀ (os : List Oper) (i : Nat) (ts : T AV) (h : AH) (ex : Ex) (ts' : T AV) (h' : AH) (a : Act) (μ : Mu) (w : World), ops.toList.drop i = os → InB a.tmps.size ops.toList → opsF E call round ops.toList os ts h = .ok ex ts' h' → St ck lo b μ h w ts a →
      Goes P ck lo b cs a (.inRegion ops (List.range' i os.length) :: k) k μ h w ex ts' h'
  | [], i, ts, h, ex, ts', h', a, μ, w, _, _, e, s => by
    cases e
    exact ⟨a, w, μ, k, .one stepR_region_end, rfl, rfl, s, Ext.refl _ _ _⟩
  | o :: os, i, ts, h, ex, ts', h', a, μ, w, hd, hB, e, s => by
    have ho : ops[i]? = some o := by
      have : (ops.toList.drop i)[0]? = some o := by rw [hd]; rfl
      rw [List.getElem?_drop, Array.getElem?_toList] at this
      exact this
    have hd' : ops.toList.drop (i + 1) = os := by
      have : (ops.toList.drop i).drop 1 = os := by rw [hd]; rfl
      rw [List.drop_drop] at this
      exact this
    have hB' : ∀ (j : Nat) (oj : Oper) (d : Nat), ops[j]? = some oj → oj.dst = some d → d < a.tmps.size := fun j oj d h1 h2 => hB j oj d (by rw [Array.getElem?_toList]; exact h1) h2
    obtain ⟨a1, w1, μ1, ts1, h1, g1, g2, g3, g4, g5⟩ := opStep_ok ok hc hr ho hB' (rest := List.range' (i + 1) os.length) e s k cs
    obtain ⟨a', w', μ', k', q1, q2, q3, q4, q5⟩ := opsF_ok ok hc hr k cs os (i + 1) ts1 h1 ex ts' h' a1 μ1 w1 hd' (g2 ▸ hB) g5 g3
    refine ⟨a', w', μ', k', ?_, q2, q3.trans g2, q4, g4.trans q5⟩
    rw [List.length_cons, List.range'_succ]
    exact g1.trans q1

/-- functions that A may enter -/
structure FnsOk (P : Program) (ck : Chk) (E : Env) : Prop where
  name : ∀ f fn, T.get E.funcs f = some fn → (fn.name == "runtime.NumGoroutine") = false
  body : ∀ f fn c, T.get E.funcs f = some fn → fn.body = some c → ∀ N, fn.ntmps ≤ N → codeB (ck f) N c = true

def SpecOk (P : Program) (ck : Chk) (sp : T Spec) : Prop := ∀ f s, T.get sp f = some s → ∀ args h v h', s args h = some (v, h') → ∀ μ w rargs, R ck μ h w → VRs μ args rargs → CallN P ck f rargs μ h w v h'

theorem setArgs_tsr {μ : Mu} {args : List AV} {rargs : List Value} (hv : VRs μ args rargs) (n : Nat) : TsR μ (setArgs args 0 .e) ((⟨rargs⟩ : Array Value) ++ Array.replicate n Go.undef) := by
  intro t v e
  have e : T.get (T.ofL args 0 .e) t = some v := e
  rw [T.get_ofL] at e
  split at e
  · rename_i ht
    rw [Nat.sub_zero] at e
    obtain ⟨rv, g1, g2⟩ := hv.get e
    have : ((⟨rargs⟩ : Array Value) ++ Array.replicate n Go.undef).getD t Go.undef = rv := by
      rw [Array.getD_eq_getD_getElem?, Array.getElem?_append_left (by
        obtain ⟨hl, _⟩ := List.getElem?_eq_some_iff.1 g1
        simpa using hl)]
      simp [g1]
    rw [this]; exact g2
  · rw [T.get_e] at e; cases e

theorem callF_ok {E : Env} {sp : T Spec} (ok : EnvOk P E) (fo : FnsOk P ck E) (so : SpecOk P ck sp) {x : CodeF} (ih : ExecS P ck x) : CallsOk P ck (callF E sp x) := by
  intro f args h v h' e μ w rargs r hv
  unfold callF at e
  cases hs : T.get sp f with
  | some s =>
    rw [hs] at e
    have e : ofSpec (s args h) = .ok v h' := e
    cases hp : s args h with
    | none => rw [hp] at e; cases e
    | some p =>
      rw [hp] at e
      obtain ⟨v1, h1⟩ := p
      have e : RV.ok v1 h1 = .ok v h' := e
      injection e with e1 e2
      subst e1
      subst e2
      exact so f s hs args h _ _ hp μ w rargs r hv
  | none =>
    rw [hs] at e
    cases hf : T.get E.funcs f with
    | none => rw [hf] at e; cases e
    | some fn =>
      rw [hf] at e
      have e : callFn E x f fn args h = .ok v h' := e
      unfold callFn at e
      cases hb : fn.body with
      | none => rw [hb] at e; cases e
      | some body =>
        rw [hb] at e
        have e : ofBody E fn (x f body (setArgs args 0 .e) h) = .ok v h' := e
        cases hx : x f body (setArgs args 0 .e) h with
        | fail => rw [hx] at e; cases e
        | ok ex ts1 h1 =>
          rw [hx] at e
          have hP := ok.funcs f fn hf
          have hin : (callFunc f ⟨rargs⟩).run P w = .ok (.enter f ⟨rargs⟩) w := by
            have hn : ¬ (fn.name = "runtime.NumGoroutine") := by
              have := fo.name f fn hf
              simpa using this
            simp [callFunc, hP, hn, hb]
          refine .inr ⟨hin, fun cs => ?_⟩
          let b : Frame := { (default : Frame) with fn := f, kind := .normal, roundOf := none }
          let a : Act := { tmps := (⟨rargs⟩ : Array Value) ++ Array.replicate (fn.ntmps - (⟨rargs⟩ : Array Value).size) Go.undef, defers := [] }
          have henter : Frame.enter P f ⟨rargs⟩ .normal = b.atR a [.code body] := by
            simp [Frame.enter, Frame.atR, hP, hb, b, a]
          have hsz : fn.ntmps ≤ a.tmps.size := by simp [a]; omega
          have s : St ck w.heap.size b μ h w (setArgs args 0 .e) a := ⟨r, setArgs_tsr hv _, ⟨rfl, fun l e => by cases e⟩, ⟨[], rfl, List.nodup_nil, fun _ h => by cases h⟩, Nat.le_refl _⟩
          obtain ⟨a', w', μ', k', g1, g2, g3, g4, g5⟩ := ih.code hx cs [] rfl (fo.body f fn body hf hb _ hsz) s
          rw [← henter] at g1
          -- the end of the body
          have fin : ∀ todo, Steps P (lone (Frame.enter P f ⟨rargs⟩ .normal) cs w) (lone { b.atR a' todo with mode := .returning } cs w') → retV E fn ts1 h1 = .ok v h' →
              ∃ rv w' μ' fr, Steps P (lone (Frame.enter P f ⟨rargs⟩ .normal) cs w) (lone fr cs w') ∧ fr.leaving P w' (.returned rv) ∧ fr.fn = f ∧ VR μ' v rv ∧ R ck μ' h' w' ∧ Ext μ h w μ' h' w' := by
            intro todo hst hret
            obtain ⟨rs, m1, m2, m3⟩ := g4.mks
            obtain ⟨w2, n1, n2, n3⟩ := leave_marks (P := P) rs w' { b.atR a' todo with mode := .returning } cs rfl m1 m2 m3 g4.r g5
            obtain ⟨rfl, rv, o1, o2⟩ := retV_ok (P := P) ok n2 g4.tr hret
            exact ⟨rv, w2, μ', { ({ b.atR a' todo with mode := .returning } : Frame) with defers := [] }, hst.trans n1, ⟨rfl, rfl, rfl, fn, hP, o1⟩, rfl, o2, n2, n3⟩
          cases ex with
          | normal =>
            have : k' = [] := g2
            subst this
            exact fin [] (g1.trans (.one (stepR_end rfl))) e
          | ret =>
            obtain ⟨k2, rfl⟩ := g2
            exact fin _ (g1.trans (.one (stepR_ret rfl))) e
          | exit id => cases e
          | goto l => cases e
end
end LA

namespace LA
open Go hiding Loc

section
variable {P : Program} {ck : Chk}

theorem setPs_ok {μ : Mu} : ∀ {ps : List Nat} {args : List AV} {ts ts0 : T AV} {rargs : List Value} {tm : Array Value}, setPs ps args ts = some ts0 → VRs μ args rargs → TsR μ ts tm → (∀ p ∈ ps, p < tm.size) →
    rargs.length = ps.length ∧ TsR μ ts0 ((ps.zip rargs).foldl (fun tm p => tm.setIfInBounds p.1 p.2) tm) ∧ ((ps.zip rargs).foldl (fun tm p => tm.setIfInBounds p.1 p.2) tm).size = tm.size
  | [], [], ts, ts0, _, tm, e, .nil, tr, _ => by
    have e : some ts = some ts0 := e
    cases e
    exact ⟨rfl, tr, rfl⟩
  | [], _ :: _, _, _, _, _, e, _, _, _ => by cases e
  | _ :: _, [], _, _, _, _, e, _, _, _ => by cases e
  | p :: ps, x :: args, ts, ts0, rv :: rargs, tm, e, .cons a b, tr, hp => by
    have e : setPs ps args (T.set ts p x) = some ts0 := e
    have hpp := hp p List.mem_cons_self
    have tr1 := (TsR.put (a := ⟨tm, []⟩) tr (d := some p) a (fun y hy => by cases hy; exact hpp)).1
    obtain ⟨h1, h2, h3⟩ := setPs_ok (tm := tm.setIfInBounds p rv) e b tr1 (fun q hq => by rw [Array.size_setIfInBounds]; exact hp q (List.mem_cons_of_mem _ hq))
    refine ⟨by simp [h1], h2, ?_⟩
    rw [List.zip_cons_cons, List.foldl_cons, h3, Array.size_setIfInBounds]

theorem asLp_some {h : AH} {l : Nat} {K : LSt → Option Code → LP → RV} {v : AV} {h' : AH} (e : asLp h l K = .ok v h') : ∃ st pend fn ts ps assign body, T.get h.t l = some (.loop st pend fn ts ps assign body) ∧ K st pend ⟨fn, ts, ps, assign, body⟩ = .ok v h' := by
  unfold asLp at e
  cases hl : T.get h.t l with
  | none => rw [hl] at e; cases e
  | some blk =>
    rw [hl] at e
    cases blk with
    | loop st pend fn ts ps assign body => exact ⟨st, pend, fn, ts, ps, assign, body, rfl, e⟩
    | _ => cases e

theorem R.setLoop {μ : Mu} {h : AH} {w : World} (r : R ck μ h w) {l : Nat} {L : Loc} {st : LSt} {pend : Option Code} {fn : Nat} {ts : T AV} {ps : List Nat} {assign body : Code} (hl : T.get h.t l = some (.loop st pend fn ts ps assign body)) (hL : μ l = some L)
    (st' : LSt) (rst : LoopState) (hs : LSR st' rst) (pend' : Option Code) {q : Loop} (hq : w.heap[L.rb]? = some (.loop q)) :
    R ck μ (setLp h l st' pend' ⟨fn, ts, ps, assign, body⟩) (w.putObj L.rb (.loop { q with state := rst, pending := pend' })) ∧ Ext μ h w μ (setLp h l st' pend' ⟨fn, ts, ps, assign, body⟩) (w.putObj L.rb (.loop { q with state := rst, pending := pend' })) := by
  obtain ⟨r1, h1, h2, h3, h4, h5, h6, h7, h8, h9, h10, h11⟩ := r.rel l _ L hl hL
  rw [h1] at hq
  cases hq
  exact r.setBlk hl hL (fun _ _ e => by cases e) (fun _ _ e => by cases e) h1 (fun q _ => ⟨_, rfl⟩)
    ⟨_, World.putObj_heap_same (r.dom l L hL).2, hs, rfl, h4, h5, h6, h7, h8, h9, h10, h11⟩

theorem roundF_ok {x : CodeF} (ih : ExecS P ck x) : RoundsOk P ck (roundF x) := by
  intro l args h v h' e μ w rargs L r hL hv
  obtain ⟨st, pend, fn, ts, ps, assign, body, hl, e1⟩ := asLp_some e
  obtain ⟨q, k1, k2, k3, k4, k5, k6, k7, k8, k9, k10, k11⟩ := r.rel l _ L hl hL
  unfold roundQ at e1
  dsimp only at e1
  cases hp : setPs ps args ts with
  | none => rw [hp] at e1; cases e1
  | some ts0 =>
    rw [hp] at e1
    have e1 : midRound x l fn body (x fn assign ts0 h) = .ok v h' := e1
    obtain ⟨p1, p2, p3⟩ := setPs_ok hp hv k5 k11
    have hsz : (⟨rargs⟩ : Array Value).size = q.params.size := by
      show rargs.length = _
      rw [p1, ← k6]; simp
    have hy := run_yield (P := P) k1 hsz
    have hfold : (q.params.zip (⟨rargs⟩ : Array Value)).foldl (fun tmps (t, a) => tmps.setIfInBounds t a) q.tmps = (ps.zip rargs).foldl (fun tm p => tm.setIfInBounds p.1 p.2) q.tmps := by
      rw [← Array.foldl_toList, Array.toList_zip, k6]
    rw [hfold, k4, k7, k8] at hy
    refine ⟨fn, _, assign, body, hy, fun c cs => ?_⟩
    generalize (ps.zip rargs).foldl (fun tm p => tm.setIfInBounds p.1 p.2) q.tmps = tm at p2 p3
    let b : Frame := { (default : Frame) with fn := fn, kind := .normal, roundOf := some L.rb }
    have henter : Frame.round L.rb fn tm assign body .normal = b.atR ⟨tm, []⟩ [.code assign, .beginRound, .code body] := by simp [Frame.round, Frame.atR, b]
    rw [henter]
    have s : St ck w.heap.size b μ h w ts0 ⟨tm, []⟩ := ⟨r, p2, ⟨rfl, fun l' e' => by cases e'; exact ⟨q, k1⟩⟩, ⟨[], rfl, List.nodup_nil, fun _ h => by cases h⟩, Nat.le_refl _⟩
    cases hx : x fn assign ts0 h with
    | fail => rw [hx] at e1; cases e1
    | ok ex ts1 h1 =>
      rw [hx] at e1
      cases ex with
      | ret => cases e1
      | exit id => cases e1
      | goto id => cases e1
      | normal =>
        obtain ⟨a1, w1, μ1, k', g1, g2, g3, g4, g5⟩ := ih.code hx (c :: cs) [.beginRound, .code body] rfl (by show codeB (ck fn) tm.size assign = true; rw [p3]; exact k9) s
        have : k' = [.beginRound, .code body] := g2
        subst this
        obtain ⟨st2, pend2, fn2, ts2, ps2, assign2, body2, hl2, e2⟩ := asLp_some (show asLp h1 l (fun st pend q => @LSt.rec (fun _ => RV) (endRound l (x fn body ts1 (setLp h1 l .busy pend q))) .fail .fail .fail st) = .ok v h' from e1)
        cases st2 with
        | busy => cases e2
        | done => cases e2
        | exhausted => cases e2
        | ready =>
          have hL1 := g5.mono l L hL
          obtain ⟨q1, j1, j2, _⟩ := g4.r.rel l _ L hl2 hL1
          have j2 : q1.state = .ready := j2
          have hbeg := run_beginRound (P := P) j1 j2
          obtain ⟨_, _, _, j3, _⟩ := g4.r.rel l _ L hl2 hL1
          have hpend : q1.pending = pend2 := by
            obtain ⟨q1', i1, i2, i3, _⟩ := g4.r.rel l _ L hl2 hL1
            rw [j1] at i1; cases i1; exact i3
          obtain ⟨r2, x2⟩ := g4.r.setLoop hl2 hL1 .busy .busy rfl pend2 j1
          have hqe : ({ q1 with state := .busy, pending := pend2 } : Loop) = { q1 with state := .busy } := by rw [← hpend]
          rw [hqe] at r2 x2
          have sb := stepR_beginRound (P := P) (b := b) (a := a1) (k := [.code body]) (cs := c :: cs) (w := w1) rfl hbeg
          have s2 := g4.ext r2 x2
          have e2 : endRound l (x fn body ts1 (setLp h1 l .busy pend2 ⟨fn2, ts2, ps2, assign2, body2⟩)) = .ok v h' := e2
          cases hx2 : x fn body ts1 (setLp h1 l .busy pend2 ⟨fn2, ts2, ps2, assign2, body2⟩) with
          | fail => rw [hx2] at e2; cases e2
          | ok ex3 ts3 h3 =>
            rw [hx2] at e2
            obtain ⟨a3, w3, μ3, k3', f1, f2, f3, f4, f5⟩ := ih.code hx2 (c :: cs) [] rfl (by rw [g3]; show codeB (ck fn) tm.size body = true; rw [p3]; exact k10) s2
            have hL3 := f5.mono l L hL1
            have hst := (g1.trans (.one sb)).trans f1
            have hx13 := g5.trans (x2.trans f5)
            -- the end of the round
            have fin : ∀ (st' : LSt) (rst : LoopState) (jump : Option Code) (bv : Bool), LSR st' rst → rst = (if jump.isNone then .ready else .done) → bv = jump.isNone → shutR l h3 st' jump bv = .ok v h' →
                (∀ (v : Value) (w' : World), (Instr.endRound L.rb jump).run P w3 = .ok v w' → step P (lone (b.atR a3 k3') (c :: cs) w3) = .next (lone (c.finish v) cs w')) →
                ∃ rv w' μ', Steps P (lone (b.atR ⟨tm, []⟩ [.code assign, .beginRound, .code body]) (c :: cs) w) (lone (c.finish rv) cs w') ∧ VR μ' v rv ∧ R ck μ' h' w' ∧ Ext μ h w μ' h' w' := by
              intro st' rst jump bv hs hrst hbv hsh hstep
              obtain ⟨st4, pend4, fn4, ts4, ps4, assign4, body4, hl4, e4⟩ := asLp_some hsh
              injection e4 with e5 e6
              subst e5
              subst e6
              obtain ⟨q4, i1, _⟩ := f4.r.rel l _ L hl4 hL3
              have hend := run_endRound (P := P) jump i1
              obtain ⟨r5, x5⟩ := f4.r.setLoop hl4 hL3 st' rst hs jump i1
              subst hrst
              subst hbv
              exact ⟨.bool jump.isNone, _, μ3, hst.trans (.one (hstep _ _ hend)), .bool _, r5, hx13.trans x5⟩
            cases ex3 with
            | normal =>
              have : k3' = [] := f2
              subst this
              exact fin .ready .ready none true rfl rfl rfl e2 (fun v w' hr => stepR_round_end rfl rfl hr)
            | ret =>
              obtain ⟨k2', rfl⟩ := f2
              exact fin .done .done (some .ret) false rfl rfl rfl e2 (fun v w' hr => stepR_round_ret rfl rfl hr)
            | exit id =>
              obtain ⟨k2', rfl, hk⟩ := f2
              exact fin .done .done (some (.exit id)) false rfl rfl rfl e2 (fun v w' hr => stepR_round_exit rfl rfl hk hr)
            | goto id => exact f2.elim
end
end LA

namespace LA
open Go hiding Loc

section
variable {P : Program} {ck : Chk}

theorem Goes.head {lo : Nat} {b : Frame} {cs : List Frame} {a a1 : Act} {todo todo1 k : List Item} {μ μ1 : Mu} {h h1 : AH} {w w1 : World} {ex : Ex} {ts' : T AV} {h' : AH} (hs : Steps P (lone (b.atR a todo) cs w) (lone (b.atR a1 todo1) cs w1)) (hz : a1.tmps.size = a.tmps.size) (x : Ext μ h w μ1 h1 w1)
    (g : Goes P ck lo b cs a1 todo1 k μ1 h1 w1 ex ts' h') : Goes P ck lo b cs a todo k μ h w ex ts' h' := by
  obtain ⟨a', w', μ', k', g1, g2, g3, g4, g5⟩ := g
  exact ⟨a', w', μ', k', hs.trans g1, g2, g3.trans hz, g4, x.trans g5⟩

theorem Goes.step {lo : Nat} {b : Frame} {cs : List Frame} {a : Act} {todo todo1 k : List Item} {μ : Mu} {h : AH} {w : World} {ex : Ex} {ts' : T AV} {h' : AH} (hs : step P (lone (b.atR a todo) cs w) = .next (lone (b.atR a todo1) cs w))
    (g : Goes P ck lo b cs a todo1 k μ h w ex ts' h') : Goes P ck lo b cs a todo k μ h w ex ts' h' := g.head (.one hs) rfl (Ext.refl _ _ _)

theorem Goes.done {lo : Nat} {b : Frame} {cs : List Frame} {a : Act} {k k' : List Item} {μ : Mu} {h : AH} {w : World} {ex : Ex} {ts : T AV} (o : Out ex k k') (s : St ck lo b μ h w ts a) : Goes P ck lo b cs a k' k μ h w ex ts h :=
  ⟨a, w, μ, k', .refl _ _, o, rfl, s, Ext.refl _ _ _⟩

/-- one code behind another -/
theorem Goes.seq {lo : Nat} {b : Frame} {cs : List Frame} {a : Act} {todo k1 k : List Item} {μ : Mu} {h : AH} {w : World} {r : Res} {K : T AV → AH → Res} {ex : Ex} {ts' : T AV} {h' : AH} (e : xSeq K r = .ok ex ts' h')
    (hk : ∀ id, exitTo id k1 = exitTo id k) (g : ∀ ex1 ts1 h1, r = .ok ex1 ts1 h1 → Goes P ck lo b cs a todo k1 μ h w ex1 ts1 h1)
    (g2 : ∀ ts1 h1 a1 μ1 w1, K ts1 h1 = .ok ex ts' h' → a1.tmps.size = a.tmps.size → St ck lo b μ1 h1 w1 ts1 a1 → Goes P ck lo b cs a1 k1 k μ1 h1 w1 ex ts' h') : Goes P ck lo b cs a todo k μ h w ex ts' h' := by
  cases r with
  | fail => cases e
  | ok ex1 ts1 h1 =>
    obtain ⟨a1, w1, μ1, k', q1, q2, q3, q4, q5⟩ := g _ _ _ rfl
    cases ex1 with
    | normal =>
      have : k' = k1 := q2
      subst this
      exact (g2 ts1 h1 a1 μ1 w1 e q3 q4).head q1 q3 q5
    | ret => cases e; exact ⟨a1, w1, μ1, k', q1, q2, q3, q4, q5⟩
    | exit id =>
      cases e
      obtain ⟨k2, rfl, hk2⟩ := q2
      exact ⟨a1, w1, μ1, _, q1, ⟨k2, rfl, hk2.trans (hk id)⟩, q3, q4, q5⟩
    | goto id => exact q2.elim

theorem and3 {a b : Bool} (h : (a && b) = true) : a = true ∧ b = true := (Bool.and_eq_true _ _).mp h

theorem lps_next {ts : T AV} {h : AH} {pend : Option Code} {ex : Ex} {ts' : T AV} {h' : AH} (e : endRF ts h pend = .ok ex ts' h') : ts' = ts ∧ h' = h ∧ ∀ k, Out ex k ((pend.map Item.code).toList ++ k) := by
  cases pend with
  | none => cases e; exact ⟨rfl, rfl, fun k => rfl⟩
  | some c =>
    cases c with
    | ret => cases e; exact ⟨rfl, rfl, fun k => ⟨k, rfl⟩⟩
    | exit id => cases e; exact ⟨rfl, rfl, fun k => ⟨k, rfl, rfl⟩⟩
    | _ => cases e

theorem enter_ok {lo : Nat} {b : Frame} {μ : Mu} {h : AH} {w : World} {ts : T AV} {a : Act} (s : St ck lo b μ h w ts a) {ps : Array Tmp} {assign body : Code} (hp : ∀ p ∈ ps.toList, p < a.tmps.size) (h1 : codeB (ck b.fn) a.tmps.size assign = true) (h2 : codeB (ck b.fn) a.tmps.size body = true) :
    ∃ l mark w1 μ1, (Instr.enterLoop b.fn a.tmps ps assign body b.roundOf).run P w = .ok (l, mark) w1 ∧ μ1 h.next = some ⟨l, 0, 0⟩ ∧ Ext μ h w μ1 ⟨h.next + 1, T.set h.t h.next (.loop .ready none b.fn ts ps.toList assign body)⟩ w1 ∧
      St ck lo b μ1 ⟨h.next + 1, T.set h.t h.next (.loop .ready none b.fn ts ps.toList assign body)⟩ w1 ts { a with defers := mark ++ a.defers } := by
  have hnone : μ h.next = none := by
    cases e : μ h.next with
    | none => rfl
    | some L => exact absurd (s.r.dom _ _ e).1 (Nat.lt_irrefl _)
  cases hr : b.roundOf with
  | none =>
    obtain ⟨ra, xa⟩ := s.r.allocOut (.deferred (some []))
    have hsz : (w.alloc (.deferred (some []))).heap.size = w.heap.size + 1 := by simp
    obtain ⟨rb, xb⟩ := ra.alloc (.loop .ready none b.fn ts ps.toList assign body) (fun cs l e => by cases e) (.loop { state := .ready, pending := none, fn := b.fn, tmps := a.tmps, params := ps, assign, body, defers := w.heap.size }) 0 0
      ⟨_, World.alloc_heap_new _ _, rfl, rfl, rfl, s.tr.mono (Mu.le_upd _ hnone), rfl, rfl, rfl, h1, h2, hp⟩
    rw [hsz] at rb xb
    refine ⟨w.heap.size + 1, _, _, _, run_enterLoop_outer b.fn a.tmps ps assign body, Mu.upd_same _ _ _, xa.trans xb, ?_⟩
    have s1 := s.ext rb (xa.trans xb)
    refine ⟨rb, s1.tr, s1.fr, ?_, s1.lo⟩
    obtain ⟨rs, m1, m2, m3⟩ := s1.mks
    have hnew : w.heap.size ∉ rs := by
      intro hm
      obtain ⟨rs0, m1', m2', m3'⟩ := s.mks
      have : rs0 = rs := by
        have hh := m1'.symm.trans m1
        have := congrArg (List.map (fun d : Deferred => match d.target with | .collected r => r | _ => 0)) hh
        simpa [List.map_map, Function.comp_def] using this
      subst this
      have := heap_lt (m3' _ hm).2.1
      omega
    refine ⟨w.heap.size :: rs, by rw [List.map_cons, ← m1]; rfl, List.nodup_cons.2 ⟨hnew, m2⟩, fun r hr => ?_⟩
    rcases List.mem_cons.1 hr with h | h
    · subst h
      refine ⟨s.lo, ?_, ?_⟩
      · have : ((w.alloc (.deferred (some []))).alloc (.loop { state := .ready, pending := none, fn := b.fn, tmps := a.tmps, params := ps, assign, body, defers := w.heap.size })).heap[w.heap.size]? = (w.alloc (.deferred (some []))).heap[w.heap.size]? := push_get _ _ _ (by rw [hsz]; omega)
        rw [this]
        exact World.alloc_heap_new _ _
      · intro x L e hL
        by_cases hx : x = h.next
        · subst hx; rw [Mu.upd_same] at e; cases e; simp at hL
        · rw [Mu.upd_ne _ _ hx] at e
          have := (s.r.dom x L e).2
          omega
    · exact m3 r h
  | some l0 =>
    obtain ⟨q0, hq0⟩ := s.fr.2 l0 hr
    obtain ⟨rb, xb⟩ := s.r.alloc (.loop .ready none b.fn ts ps.toList assign body) (fun cs l e => by cases e) (.loop { state := .ready, pending := none, fn := b.fn, tmps := a.tmps, params := ps, assign, body, defers := q0.defers }) 0 0
      ⟨_, World.alloc_heap_new _ _, rfl, rfl, rfl, s.tr.mono (Mu.le_upd _ hnone), rfl, rfl, rfl, h1, h2, hp⟩
    refine ⟨w.heap.size, [], _, _, run_enterLoop_inner hq0 b.fn a.tmps ps assign body, Mu.upd_same _ _ _, xb, ?_⟩
    exact s.ext rb xb
end
end LA

namespace LA
open Go hiding Loc

section
variable {P : Program} {ck : Chk}

theorem stepR_scope {b : Frame} {a : Act} {c : Code} {k : List Item} {cs : List Frame} {w : World} : step P (lone (b.atR a (.code (.scope c) :: k)) cs w) = .next (lone (b.atR a (.code c :: .inScope c :: k)) cs w) :=
  step_lone_go (by simp [stepG, stepG.exec, Frame.atR])
theorem stepR_inScope {b : Frame} {a : Act} {c : Code} {k : List Item} {cs : List Frame} {w : World} : step P (lone (b.atR a (.inScope c :: k)) cs w) = .next (lone (b.atR a k) cs w) :=
  step_lone_go (by simp [stepG, stepG.exec, Frame.atR])

theorem stepR_rangeFunc_value {b : Frame} {a : Act} {k : List Item} {cs : List Frame} {w : World} {g : Operand} {ps : Array Tmp} {assign body : Code} {l : Nat} {mark : List Deferred} {w₁ w₁' w₂ : World} {d : Deferred} {v : Value}
    (he : (Instr.enterLoop b.fn a.tmps ps assign body b.roundOf).run P w = .ok (l, mark) w₁)
    (hres : (resolve a.eval (rangeCall g l) 0).run P w₁ = .ok d w₁') (hinv : (invoke d.target d.args).run P w₁' = .ok (.value v) w₂) :
    step P (lone (b.atR a (.code (.rangeFunc g ps assign body) :: k)) cs w) = .next (lone (b.atR { a with defers := mark ++ a.defers } (.endRangeFunc l :: k)) cs w₂) :=
  step_lone_go (by
    have hev := Frame.eval_atR b { a with defers := mark ++ a.defers } (.inRangeFunc l :: k)
    simp only [Frame.atR] at hev
    have hres' : Sem.run P (resolve ({ tmps := a.tmps, defers := mark ++ a.defers } : Act).eval { callee := .value g, args := #[.const (.func (.yield l) #[] #[])], argTypes := #[] } 0) w₁ = .ok d w₁' := hres
    simp [stepG, stepG.exec, Frame.atR, Sem.runT_eq, he, GStep.bare_after, stepG.apply, hev, Sem.run_bind, hres', hinv, Result.andThen, Frame.finish])

theorem rangeFunc_ok {E : Env} {sp : T Spec} {x : CodeF} (hc : CallsOk P ck (callF E sp x)) {fid : Nat} {f : Operand} {ps : Array Tmp} {assign body : Code} {ts : T AV} {h : AH} {ex : Ex} {ts' : T AV} {h' : AH}
    (e : xRF (callF E sp x) fid ts ps.toList assign body h (evalO ts f) = .ok ex ts' h') {lo : Nat} {b : Frame} (cs : List Frame) {a : Act} (k : List Item) {μ : Mu} {w : World} (hb : b.fn = fid) (hcb : codeB (ck fid) a.tmps.size (.rangeFunc f ps assign body) = true) (s : St ck lo b μ h w ts a) :
    Goes P ck lo b cs a (.code (.rangeFunc f ps assign body) :: k) k μ h w ex ts' h' := by
  subst hb
  have hcb : (((ps.toList.all fun p => decide (p < a.tmps.size)) && codeB (ck b.fn) a.tmps.size assign) && codeB (ck b.fn) a.tmps.size body) = true := hcb
  obtain ⟨hcb1, hcb2⟩ := and3 hcb
  obtain ⟨hcb3, hcb4⟩ := and3 hcb1
  have hp : ∀ p ∈ ps.toList, p < a.tmps.size := fun p hm => of_decide_eq_true (List.all_eq_true.1 hcb3 p hm)
  have hf := evalO_ok s.tr a.defers f
  cases hev : evalO ts f with
  | func g first cap =>
    rw [hev] at e hf
    have e : LA.alloc h (.loop .ready none b.fn ts ps.toList assign body) (fun l h => xRF2 l ts (callF E sp x g (lapp first (.yield l :: cap)) h)) = .ok ex ts' h' := e
    rw [alloc_eq] at e
    obtain ⟨l, mark, w1, μ1, k1, k2, k3, k4⟩ := enter_ok (P := P) s hp hcb4 hcb2
    have hfe : ∃ rfs rcs, Act.eval ⟨a.tmps, a.defers⟩ f = .func (.func g) ⟨rfs⟩ ⟨rcs⟩ ∧ VRs μ first rfs ∧ VRs μ cap rcs := by
      generalize Act.eval ⟨a.tmps, a.defers⟩ f = rv at hf
      cases hf with
      | @func _ _ _ rfs rcs v1 v2 => exact ⟨rfs, rcs, rfl, v1, v2⟩
    obtain ⟨rfs, rcs, v0, v1, v2⟩ := hfe
    have v0 : a.eval f = .func (.func g) ⟨rfs⟩ ⟨rcs⟩ := v0
    cases hcl : callF E sp x g (lapp first (.yield h.next :: cap)) ⟨h.next + 1, T.set h.t h.next (.loop .ready none b.fn ts ps.toList assign body)⟩ with
    | fail => rw [hcl] at e; cases e
    | ok v h2 =>
      rw [hcl] at e
      have hargs : VRs μ1 (lapp first (.yield h.next :: cap)) (rfs ++ (.func (.yield l) #[] #[] :: rcs)) := by
        rw [lapp_eq]
        exact (v1.mono k3.mono).append (.cons (.yield k2) (v2.mono k3.mono))
      have hres : (resolve a.eval (rangeCall f l) 0).run P w1 = .ok { target := .fn (.func g) ⟨rcs⟩, args := ⟨rfs⟩ ++ #[.func (.yield l) #[] #[]] } w1 := by
        have : resolve a.eval (rangeCall f l) 0 = Deferred.ofValue (a.eval f) #[.func (.yield l) #[] #[]] := by
          simp [resolve, Act.eval]
        rw [this, v0]
        simp [Deferred.ofValue]
      have hinv : (invoke (.fn (.func g) ⟨rcs⟩) ((⟨rfs⟩ : Array Value) ++ #[.func (.yield l) #[] #[]])) = callFunc g ⟨rfs ++ (.func (.yield l) #[] #[] :: rcs)⟩ := by
        simp [invoke]
      have e : xRF2 h.next ts (.ok v h2) = .ok ex ts' h' := e
      have tail : ∀ (μ2 : Mu) (w2 : World), Steps P (lone (b.atR a (.code (.rangeFunc f ps assign body) :: k)) cs w) (lone (b.atR { a with defers := mark ++ a.defers } (.endRangeFunc l :: k)) cs w2) → R ck μ2 h2 w2 → Ext μ1 ⟨h.next + 1, T.set h.t h.next (.loop .ready none b.fn ts ps.toList assign body)⟩ w1 μ2 h2 w2 →
          Goes P ck lo b cs a (.code (.rangeFunc f ps assign body) :: k) k μ h w ex ts' h' := by
        intro μ2 w2 hst d5 d6
        have s2 := k4.ext d5 d6
        unfold xRF2 at e
        dsimp only at e
        cases hl : T.get h2.t h.next with
        | none => rw [hl] at e; cases e
        | some blk =>
          rw [hl] at e
          cases blk with
          | loop st pend fn ts0 ps0 assign0 body0 =>
            have hL2 := d6.mono _ _ k2
            obtain ⟨q, j1, j2, j3, _⟩ := s2.r.rel _ _ _ hl hL2
            have key : q.state ≠ .busy → endRF ts (setLp h2 h.next .exhausted pend ⟨fn, ts0, ps0, assign0, body0⟩) pend = .ok ex ts' h' → Goes P ck lo b cs a (.code (.rangeFunc f ps assign body) :: k) k μ h w ex ts' h' := by
              intro hnb e2
              have hend := run_endLoop (P := P) j1 hnb
              obtain ⟨r5, x5⟩ := s2.r.setLoop hl hL2 .exhausted .exhausted rfl pend j1
              obtain ⟨rfl, rfl, ho⟩ := lps_next e2
              have hlast := stepR_endRangeFunc (P := P) (b := b) (a := { a with defers := mark ++ a.defers }) (k := k) (cs := cs) hend
              rw [j3] at hlast
              exact ⟨{ a with defers := mark ++ a.defers }, _, μ2, _, hst.trans (.one hlast), ho k, rfl, s2.ext r5 x5, k3.trans (d6.trans x5)⟩
            cases st with
            | ready => exact key (by rw [show q.state = .ready from j2]; simp) e
            | done => exact key (by rw [show q.state = .done from j2]; simp) e
            | _ => cases e
          | _ => cases e
      rcases hc g _ _ v h2 hcl μ1 w1 _ k4.r hargs with ⟨rv, w2, μ2, c1, c2, c3, c4⟩ | ⟨c1, c2⟩
      · exact tail μ2 w2 (.one (stepR_rangeFunc_value (P := P) (b := b) (a := a) (k := k) (cs := cs) (w := w) (g := f) (ps := ps) (assign := assign) (body := body) k1 hres (by rw [hinv]; exact c1))) c3 c4
      · have hstep := stepR_rangeFunc (P := P) (b := b) (a := a) (k := k) (cs := cs) (w := w) (g := f) (ps := ps) (assign := assign) (body := body) k1 hres (by rw [hinv]; exact c1)
        obtain ⟨rv, w2, μ2, fr, d1, d2, d3, d4, d5, d6⟩ := c2 (b.atR { a with defers := mark ++ a.defers } (.inRangeFunc l :: k) :: cs)
        have hback : step P (lone fr (b.atR { a with defers := mark ++ a.defers } (.inRangeFunc l :: k) :: cs) w2) = .next (lone (b.atR { a with defers := mark ++ a.defers } (.endRangeFunc l :: k)) cs w2) := by
          rw [← finish_atR_inRangeFunc l rv]; exact step_leave_returned d2
        exact tail μ2 w2 (.head hstep (d1.trans (.one hback))) d5 d6
  | _ => rw [hev] at e; cases e

theorem exec_ok {E : Env} {sp : T Spec} (ok : EnvOk P E) (fo : FnsOk P ck E) (so : SpecOk P ck sp) (dr : DrawOk P ck E) : ∀ n, ExecS P ck (exec E sp n)
  | 0 => fun fid c ts h ex ts' h' e => by cases e
  | n + 1 => by
    have ih := exec_ok ok fo so dr n
    have hc := callF_ok ok fo so ih
    have hr := roundF_ok ih
    intro fid c ts h ex ts' h' e lo b cs a k μ w hb hcb s
    cases c with
    | skip => cases e; exact (Goes.done (ex := .normal) (k' := k) rfl s).step stepR_skip
    | label l => cases e; exact (Goes.done (ex := .normal) (k' := k) rfl s).step stepR_label
    | region id ops draw =>
      have hcb : ((ops.toList.all fun o => match o.dst with | some d => decide (d < a.tmps.size) | none => true) && (!draw || ck fid id ops.toList)) = true := hcb
      obtain ⟨c1, c2⟩ := and3 hcb
      have hB : InB a.tmps.size ops.toList := by
        intro j oj d h1 h2
        have := List.all_eq_true.1 c1 oj (List.mem_of_getElem? h1)
        rw [h2] at this
        exact of_decide_eq_true this
      have e : regF E (callF E sp (exec E sp n)) (roundF (exec E sp n)) fid id ops.toList draw ts h = .ok ex ts' h' := e
      cases draw with
      | false =>
        have e : opsF E (callF E sp (exec E sp n)) (roundF (exec E sp n)) ops.toList ops.toList ts h = .ok ex ts' h' := e
        have g := opsF_ok ok hc hr k cs ops.toList 0 ts h ex ts' h' a μ w rfl hB e s
        refine Goes.step (todo1 := .inRegion ops (List.range ops.size) :: k) stepR_region ?_
        rw [List.range_eq_range']
        exact g
      | true =>
        cases hh : hintOf E fid id with
        | none =>
          unfold regF at e
          rw [hh] at e
          cases e
        | some hs =>
          unfold regF at e
          rw [hh] at e
          exact dr _ _ hc hr fid id ops hs hh (by simpa using c2) ts h ex ts' h' e lo b cs a k μ w hb hB s
    | seq c1 c2 =>
      have hcb : (codeB (ck fid) a.tmps.size c1 && codeB (ck fid) a.tmps.size c2) = true := hcb
      obtain ⟨b1, b2⟩ := and3 hcb
      have e : xSeq (exec E sp n fid c2) (exec E sp n fid c1 ts h) = .ok ex ts' h' := e
      refine Goes.step (todo1 := .code c1 :: .code c2 :: k) stepR_seq (Goes.seq (k1 := .code c2 :: k) e (fun id => rfl) (fun ex1 ts1 h1 e1 => ih.code e1 cs _ hb b1 s) (fun ts1 h1 a1 μ1 w1 e1 hz s1 => ih.code e1 cs k hb (hz ▸ b2) s1))
    | cond c x y =>
      have hcb : (codeB (ck fid) a.tmps.size x && codeB (ck fid) a.tmps.size y) = true := hcb
      obtain ⟨b1, b2⟩ := and3 hcb
      have hv := evalO_ok s.tr a.defers c
      have e : xCond (exec E sp n) fid x y ts h (evalO ts c) = .ok ex ts' h' := e
      cases hev : evalO ts c with
      | bool t =>
        rw [hev] at e hv
        have ht : a.eval c = .bool t := by
          have hv : VR μ (.bool t) (a.eval c) := hv
          generalize a.eval c = rv at hv
          cases hv; rfl
        refine Goes.step (stepR_cond ht) ?_
        cases t with
        | true => exact ih.code (show exec E sp n fid x ts h = .ok ex ts' h' from e) cs k hb b1 s
        | false => exact ih.code (show exec E sp n fid y ts h = .ok ex ts' h' from e) cs k hb b2 s
      | _ => rw [hev] at e; cases e
    | block id c =>
      have hcb : codeB (ck fid) a.tmps.size c = true := hcb
      have e : xBlock id (exec E sp n fid c ts h) = .ok ex ts' h' := e
      refine Goes.step (todo1 := .code c :: .inBlock id :: k) stepR_block ?_
      cases hx : exec E sp n fid c ts h with
      | fail => rw [hx] at e; cases e
      | ok ex1 ts1 h1 =>
        rw [hx] at e
        obtain ⟨a1, w1, μ1, k', q1, q2, q3, q4, q5⟩ := ih.code hx cs (.inBlock id :: k) hb hcb s
        cases ex1 with
        | normal =>
          cases e
          have : k' = .inBlock id :: k := q2
          subst this
          exact ((Goes.done (ex := .normal) (k' := k) rfl q4).step stepR_inBlock).head q1 q3 q5
        | ret => cases e; exact ⟨a1, w1, μ1, k', q1, q2, q3, q4, q5⟩
        | goto l => exact q2.elim
        | exit id' =>
          obtain ⟨k2, rfl, hk2⟩ := q2
          have e : @Bool.rec (fun _ => Res) (.ok (.exit id') ts1 h1) (.ok .normal ts1 h1) (Nat.beq id' id) = .ok ex ts' h' := e
          cases hi : Nat.beq id' id with
          | true =>
            rw [hi] at e
            cases e
            have hid : id' = id := Nat.eq_of_beq_eq_true hi
            subst hid
            have hk3 : exitTo id' k2 = some k := by rw [hk2]; simp [exitTo]
            exact ((Goes.done (ex := .normal) (k' := k) rfl q4).step (stepR_exit hk3)).head q1 q3 q5
          | false =>
            rw [hi] at e
            cases e
            have hne : id ≠ id' := fun h => by subst h; simp at hi
            refine ⟨a1, w1, μ1, _, q1, ⟨k2, rfl, ?_⟩, q3, q4, q5⟩
            rw [hk2]; simp [exitTo, hne]
    | loop c =>
      have hcb : codeB (ck fid) a.tmps.size c = true := hcb
      have e : xSeq (exec E sp n fid (.loop c)) (exec E sp n fid c ts h) = .ok ex ts' h' := e
      refine Goes.seq (k1 := .inLoop c :: k) e (fun id => rfl) (fun ex1 ts1 h1 e1 => ih.code e1 cs _ hb hcb s) (fun ts1 h1 a1 μ1 w1 e1 hz s1 => ?_)
      exact (ih fid (.loop c) ts1 h1 ex ts' h' e1 lo b cs a1 k μ1 w1 hb (hz ▸ hcb) s1).step stepR_inLoop
    | scope c =>
      have hcb : codeB (ck fid) a.tmps.size c = true := hcb
      have e : exec E sp n fid c ts h = .ok ex ts' h' := e
      refine Goes.step (todo1 := .code c :: .inScope c :: k) stepR_scope ?_
      obtain ⟨a1, w1, μ1, k', q1, q2, q3, q4, q5⟩ := ih.code e cs (.inScope c :: k) hb hcb s
      cases ex with
      | normal =>
        have : k' = .inScope c :: k := q2
        subst this
        exact ((Goes.done (ex := .normal) (k' := k) rfl q4).step stepR_inScope).head q1 q3 q5
      | ret => exact ⟨a1, w1, μ1, k', q1, q2, q3, q4, q5⟩
      | goto l => exact q2.elim
      | exit id =>
        obtain ⟨k2, rfl, hk2⟩ := q2
        exact ⟨a1, w1, μ1, _, q1, ⟨k2, rfl, hk2⟩, q3, q4, q5⟩
    | exit id => cases e; exact Goes.done (k' := .code (.exit id) :: k) ⟨k, rfl, rfl⟩ s
    | goto l => cases e
    | ret => cases e; exact Goes.done (k' := .code .ret :: k) ⟨k, rfl⟩ s
    | refuse r => cases e
    | rangeFunc f ps assign body => exact rangeFunc_ok hc (show xRF (callF E sp (exec E sp n)) fid ts ps.toList assign body h (evalO ts f) = .ok ex ts' h' from e) cs k hb hcb s
end
end LA

namespace LA
open Go hiding Loc

theorem codeB_mono {ck : Nat → List Oper → Bool} {N M : Nat} (h : N ≤ M) : ∀ c : Code, codeB ck N c = true → codeB ck M c = true
  | .region id ops draw, e => by
    obtain ⟨e1, e2⟩ := and3 (show ((ops.toList.all fun o => match o.dst with | some d => decide (d < N) | none => true) && (!draw || ck id ops.toList)) = true from e)
    show ((ops.toList.all fun o => match o.dst with | some d => decide (d < M) | none => true) && (!draw || ck id ops.toList)) = true
    rw [Bool.and_eq_true]
    refine ⟨List.all_eq_true.2 fun o ho => ?_, e2⟩
    have := List.all_eq_true.1 e1 o ho
    cases hd : o.dst with
    | none => rfl
    | some d =>
      rw [hd] at this
      have h2 : d < N := of_decide_eq_true this
      exact decide_eq_true (Nat.lt_of_lt_of_le h2 h)
  | .seq a b, e => by
    obtain ⟨e1, e2⟩ := and3 (show (codeB ck N a && codeB ck N b) = true from e)
    show (codeB ck M a && codeB ck M b) = true
    rw [codeB_mono h a e1, codeB_mono h b e2]; rfl
  | .cond c a b, e => by
    obtain ⟨e1, e2⟩ := and3 (show (codeB ck N a && codeB ck N b) = true from e)
    show (codeB ck M a && codeB ck M b) = true
    rw [codeB_mono h a e1, codeB_mono h b e2]; rfl
  | .block _ a, e => codeB_mono h a (show codeB ck N a = true from e)
  | .loop a, e => codeB_mono h a (show codeB ck N a = true from e)
  | .scope a, e => codeB_mono h a (show codeB ck N a = true from e)
  | .rangeFunc f ps a b, e => by
    obtain ⟨e0, e2⟩ := and3 (show (((ps.toList.all fun p => decide (p < N)) && codeB ck N a) && codeB ck N b) = true from e)
    obtain ⟨e3, e1⟩ := and3 e0
    show (((ps.toList.all fun p => decide (p < M)) && codeB ck M a) && codeB ck M b) = true
    rw [codeB_mono h a e1, codeB_mono h b e2, Bool.and_true, Bool.and_true]
    refine List.all_eq_true.2 fun p hp => ?_
    have h2 : p < N := of_decide_eq_true (List.all_eq_true.1 e3 p hp)
    exact decide_eq_true (Nat.lt_of_lt_of_le h2 h)
  | .skip, _ => rfl
  | .label _, _ => rfl
  | .exit _, _ => rfl
  | .goto _, _ => rfl
  | .ret, _ => rfl
  | .refuse _, _ => rfl

section
variable {P : Program} {ck : Chk}

/-- a run of A is a call of the program's -/
theorem calls_of {E : Env} {sp : T Spec} (ok : EnvOk P E) (fo : FnsOk P ck E) (so : SpecOk P ck sp) (dr : DrawOk P ck E) {n f : Nat} {args : List AV} {h : AH} {v : AV} {h' : AH} (e : callF E sp (exec E sp n) f args h = .ok v h') {μ : Mu} {w : World} {rargs : List Value} (r : R ck μ h w) (hv : VRs μ args rargs)
    (hin : (callFunc f ⟨rargs⟩).run P w = .ok (.enter f ⟨rargs⟩) w) {Q : Ending → World → Prop} (hQ : ∀ rv w' μ', VR μ' v rv → R ck μ' h' w' → Ext μ h w μ' h' w' → Q (.returned rv) w') : Calls P f ⟨rargs⟩ w Q := by
  intro cs
  rcases callF_ok ok fo so (exec_ok ok fo so dr n) f args h v h' e μ w rargs r hv with ⟨rv, w', μ', c1, _⟩ | ⟨_, c2⟩
  · rw [hin] at c1; cases c1
  · obtain ⟨rv, w', μ', fr, d1, d2, d3, d4, d5, d6⟩ := c2 cs
    exact ⟨.returned rv, w', fr, hQ rv w' μ' d4 d5 d6, d1, d3, d2⟩

theorem envOf_ok (P : Program) (sch : List (Nat × List (Nat × List Nat))) : EnvOk P (envOf P sch) where
  tys t i e := by
    have e1 : T.get (T.ofList ((List.range P.types.size).map (tiOf P))) t = some i := e
    rw [T.get_ofList, List.getElem?_map] at e1
    cases h : (List.range P.types.size)[t]? with
    | none => rw [h] at e1; cases e1
    | some j =>
      rw [h] at e1
      obtain ⟨hl, hj⟩ := List.getElem?_eq_some_iff.1 h
      rw [List.getElem_range] at hj
      subst hj
      cases e1
      rfl
  funcs f fn e := by
    have e : T.get (T.ofList P.funcs.toList) f = some fn := e
    rw [T.get_ofList, Array.getElem?_toList] at e
    exact e
end
end LA

namespace LA
open Go hiding Loc

/-- the temporaries that an operand looks at -/
def tmpsOf : Operand → List Nat
  | .tmp t => [t]
  | _ => []

theorem evalO_congr {ts ts' : T AV} {x : Operand} (h : ∀ t ∈ tmpsOf x, T.get ts t = T.get ts' t) : evalO ts x = evalO ts' x := by
  cases x with
  | tmp t =>
    show @Option.rec AV (fun _ => AV) AV.junk (fun v => v) (T.get ts t) = @Option.rec AV (fun _ => AV) AV.junk (fun v => v) (T.get ts' t)
    rw [h t (by simp [tmpsOf])]
  | _ => rfl
theorem evo_congr {ts ts' : T AV} {x : Option Operand} (h : ∀ o ∈ x, ∀ t ∈ tmpsOf o, T.get ts t = T.get ts' t) : evo ts x = evo ts' x := by
  cases x with
  | none => rfl
  | some o =>
    show some (evalO ts o) = some (evalO ts' o)
    rw [evalO_congr (h o rfl)]
theorem evs_congr {ts ts' : T AV} {l : List Operand} (h : ∀ o ∈ l, ∀ t ∈ tmpsOf o, T.get ts t = T.get ts' t) : evs ts l = evs ts' l := by
  unfold evs
  rw [lmap_eq, lmap_eq]
  exact List.map_congr_left fun o ho => evalO_congr (h o ho)
theorem evp_congr {ts ts' : T AV} {l : List (Nat × Operand)} (h : ∀ p ∈ l, ∀ t ∈ tmpsOf p.2, T.get ts t = T.get ts' t) : evp ts l = evp ts' l := by
  unfold evp
  rw [lmap_eq, lmap_eq]
  exact List.map_congr_left fun p hp => by rw [evalO_congr (h p hp)]

/-- what an operation tells hangs on the temporaries of its operands alone -/
theorem aop_congr {op : Op} {E : Env} {ts ts' : T AV} {h : AH} (hs : ∀ x ∈ op.operands, ∀ t ∈ tmpsOf x, T.get ts t = T.get ts' t) : aop op E ts h = aop op E ts' h := by
  have ev : ∀ x, x ∈ op.operands → evalO ts x = evalO ts' x := fun x hx => evalO_congr (hs x hx)
  have eo : ∀ x : Option Operand, (∀ o ∈ x, o ∈ op.operands) → evo ts x = evo ts' x := fun x hx => evo_congr fun o ho => hs o (hx o ho)
  cases op with
  | move x => show rV h (evalO ts x) = rV h (evalO ts' x); rw [ev x (by simp [Op.operands])]
  | assign x => show rV h (evalO ts x) = rV h (evalO ts' x); rw [ev x (by simp [Op.operands])]
  | box t x => show boxOp (evalO ts x) h = boxOp (evalO ts' x) h; rw [ev x (by simp [Op.operands])]
  | load t x => show loadOp E t (evalO ts x) h = loadOp E t (evalO ts' x) h; rw [ev x (by simp [Op.operands])]
  | nilCheck x => show nilCk (evalO ts x) h = nilCk (evalO ts' x) h; rw [ev x (by simp [Op.operands])]
  | unOp o t x => show unOpA o (evalO ts x) h = unOpA o (evalO ts' x) h; rw [ev x (by simp [Op.operands])]
  | convert s d x => show LA.convOp E s d (evalO ts x) h = LA.convOp E s d (evalO ts' x) h; rw [ev x (by simp [Op.operands])]
  | makeInterface t x => show mkIface E t (evalO ts x) h = mkIface E t (evalO ts' x) h; rw [ev x (by simp [Op.operands])]
  | fieldAddr t x f => show fieldAd E t (evalO ts x) f h = fieldAd E t (evalO ts' x) f h; rw [ev x (by simp [Op.operands])]
  | field t x f => show fieldV E t (evalO ts x) f h = fieldV E t (evalO ts' x) f h; rw [ev x (by simp [Op.operands])]
  | range t x => show rangeOp (tyk E t) (evalO ts x) h = rangeOp (tyk E t) (evalO ts' x) h; rw [ev x (by simp [Op.operands])]
  | next x s => show nextOp (evalO ts x) s h = nextOp (evalO ts' x) s h; rw [ev x (by simp [Op.operands])]
  | entry x => show entryOp (evalO ts x) h = entryOp (evalO ts' x) h; rw [ev x (by simp [Op.operands])]
  | typeAssert x s t c => show assertOp E (evalO ts x) t c h = assertOp E (evalO ts' x) t c h; rw [ev x (by simp [Op.operands])]
  | extract x i => show (asTup (evalO ts x) fun vs => rO h (lget vs i)) = (asTup (evalO ts' x) fun vs => rO h (lget vs i)); rw [ev x (by simp [Op.operands])]
  | store t a v => show storeOp E t (evalO ts a) (evalO ts v) h = storeOp E t (evalO ts' a) (evalO ts' v) h; rw [ev a (by simp [Op.operands]), ev v (by simp [Op.operands])]
  | binOp o t a v c => show rO h (LA.binOp E (Bool.or (isCst a) (isCst v)) o t (evalO ts a) (evalO ts v)) = rO h (LA.binOp E (Bool.or (isCst a) (isCst v)) o t (evalO ts' a) (evalO ts' v)); rw [ev a (by simp [Op.operands]), ev v (by simp [Op.operands])]
  | makeSlice t a v => show makeSlOp E t (evalO ts a) (evalO ts v) h = makeSlOp E t (evalO ts' a) (evalO ts' v) h; rw [ev a (by simp [Op.operands]), ev v (by simp [Op.operands])]
  | indexAddr t a v => show indexAd E t (evalO ts a) (evalO ts v) h = indexAd E t (evalO ts' a) (evalO ts' v) h; rw [ev a (by simp [Op.operands]), ev v (by simp [Op.operands])]
  | index t a v => show bo (isStrK (tyk E t)) (indexStr (evalO ts a) (evalO ts v) h) = bo (isStrK (tyk E t)) (indexStr (evalO ts' a) (evalO ts' v) h); rw [ev a (by simp [Op.operands]), ev v (by simp [Op.operands])]
  | lookup t a v c => show lookupOp E t (evalO ts a) (evalO ts v) c h = lookupOp E t (evalO ts' a) (evalO ts' v) c h; rw [ev a (by simp [Op.operands]), ev v (by simp [Op.operands])]
  | mapEntry t a v => show mapEnt E t (evalO ts a) (evalO ts v) h = mapEnt E t (evalO ts' a) (evalO ts' v) h; rw [ev a (by simp [Op.operands]), ev v (by simp [Op.operands])]
  | pick m k v => show pickOp (evalO ts m) (evalO ts k) (evalO ts v) h = pickOp (evalO ts' m) (evalO ts' k) (evalO ts' v) h; rw [ev m (by simp [Op.operands]), ev k (by simp [Op.operands]), ev v (by simp [Op.operands])]
  | mapUpdate t m k v => show mapUpd E t (evalO ts m) (evalO ts k) (evalO ts v) h = mapUpd E t (evalO ts' m) (evalO ts' k) (evalO ts' v) h; rw [ev m (by simp [Op.operands]), ev k (by simp [Op.operands]), ev v (by simp [Op.operands])]
  | entryStore t m k v => show entSt (evalO ts m) (evalO ts k) (evalO ts v) h = entSt (evalO ts' m) (evalO ts' k) (evalO ts' v) h; rw [ev m (by simp [Op.operands]), ev k (by simp [Op.operands]), ev v (by simp [Op.operands])]
  | build t ps =>
    show buildOp E t (evp ts ps.toList) h = buildOp E t (evp ts' ps.toList) h
    rw [evp_congr fun p hp => hs p.2 (by simp only [Op.operands, List.mem_toArray, List.mem_map]; exact ⟨p, hp, rfl⟩)]
  | buildSlice t n ps =>
    show buildSlOp E t n (evp ts ps.toList) h = buildSlOp E t n (evp ts' ps.toList) h
    rw [evp_congr fun p hp => hs p.2 (by simp only [Op.operands, List.mem_toArray, List.mem_map]; exact ⟨p, hp, rfl⟩)]
  | makeFunc fn a b =>
    show mkFunc fn (evs ts a.toList) (evs ts b.toList) h = mkFunc fn (evs ts' a.toList) (evs ts' b.toList) h
    rw [evs_congr fun o ho => hs o (by simp only [Op.operands, Array.mem_append]; exact .inl (Array.mem_toList_iff.1 ho)), evs_congr fun o ho => hs o (by simp only [Op.operands, Array.mem_append]; exact .inr (Array.mem_toList_iff.1 ho))]
  | makeMap t r =>
    show bo (resOk E t (evo ts r)) _ = bo (resOk E t (evo ts' r)) _
    rw [eo r fun o ho => by simpa [Op.operands] using ho]
  | slice t x lo hi mx =>
    show rO h (LA.sliceOp E t (evalO ts x) (evo ts lo) (evo ts hi) (evo ts mx) h) = rO h (LA.sliceOp E t (evalO ts' x) (evo ts' lo) (evo ts' hi) (evo ts' mx) h)
    rw [ev x (by simp [Op.operands]), eo lo fun o ho => (by simp [Op.operands]; simp at ho; simp [ho]), eo hi fun o ho => (by simp [Op.operands]; simp at ho; simp [ho]), eo mx fun o ho => (by simp [Op.operands]; simp at ho; simp [ho])]
  | call c =>
    obtain ⟨cal, args, ats⟩ := c
    have ha : evs ts args.toList = evs ts' args.toList := evs_congr fun o ho => hs o (by
      have ho := Array.mem_toList_iff.1 ho
      cases cal <;> simp [Op.operands, Call.operands, ho])
    show callee cal E ats.toList ts (evs ts args.toList) h = callee cal E ats.toList ts' (evs ts' args.toList) h
    rw [ha]
    cases cal with
    | value x =>
      show callV (evalO ts x) _ h = callV (evalO ts' x) _ h
      rw [ev x (by simp [Op.operands, Call.operands])]
    | _ => rfl
  | _ => rfl
end LA
