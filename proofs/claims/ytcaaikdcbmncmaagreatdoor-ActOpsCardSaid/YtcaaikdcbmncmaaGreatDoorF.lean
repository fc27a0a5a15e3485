/-
That run is sound over the model: regions that draw their order; contracts of the library taken as steps of the run.
-/
import Derived.Test.YtcaaikdcbmncmaaGreatDoorD
import Derived.Below
import Derived.Lib.Split
import Derived.Lib.ItoaNum
import Derived.Lib.ParseIntB
import Derived.Lib.CountLaws
import Derived.Lib.Join
import Derived.Lib.AtoiErrMem
import Derived.Lib.AtoiAll
import Derived.Lib.ParseIntBTie
namespace LA
open Go hiding Loc

/-! ## operations that tell and do not turn -/
/-- what is told may hang on memory; memory stays -/
def HR (K : AH → Option Nx) : Prop := ∃ Z : AH → Option AV, ∀ h, K h = rO h (Z h)
/-- what is told hangs on no memory -/
def HF (K : AH → Option Nx) : Prop := ∃ Z : Option AV, ∀ h, K h = rO h Z

theorem HR.rV (v : AH → AV) : HR (fun h => LA.rV h (v h)) := ⟨fun h => some (v h), fun _ => rfl⟩
theorem HR.rO (v : AH → Option AV) : HR (fun h => LA.rO h (v h)) := ⟨v, fun _ => rfl⟩
theorem HR.none : HR (fun _ => Option.none) := ⟨fun _ => Option.none, fun _ => rfl⟩
theorem HF.rV (v : AV) : HF (fun h => LA.rV h v) := ⟨some v, fun _ => rfl⟩
theorem HF.rO (v : Option AV) : HF (fun h => LA.rO h v) := ⟨v, fun _ => rfl⟩
theorem HF.none : HF (fun _ => Option.none) := ⟨Option.none, fun _ => rfl⟩

theorem HF.hr {K : AH → Option Nx} (f : HF K) : HR K := let ⟨Z, hz⟩ := f; ⟨fun _ => Z, hz⟩

/-- by cases at each memory -/
theorem HR.of {K : AH → Option Nx} (f : ∀ h, K h = Option.none ∨ ∃ v, K h = some (.val v h)) : HR K := by
  classical
  refine ⟨fun h => match K h with | some (.val v _) => some v | _ => Option.none, fun h => ?_⟩
  rcases f h with e | ⟨v, e⟩
  · simp only [e]; rfl
  · simp only [e]; rfl

theorem HR.use {K : AH → Option Nx} (f : HR K) {h : AH} {nx : Nx} (e : K h = some nx) : ∃ v, nx = .val v h := by
  obtain ⟨Z, hz⟩ := f
  rw [hz h] at e
  obtain ⟨a, _, e2⟩ := rO_some e
  exact ⟨a, e2⟩
theorem HF.use {K : AH → Option Nx} (f : HF K) {h : AH} {nx : Nx} (e : K h = some nx) : ∃ v, nx = .val v h ∧ ∀ h2, K h2 = some (.val v h2) := by
  obtain ⟨Z, hz⟩ := f
  rw [hz h] at e
  obtain ⟨a, e1, e2⟩ := rO_some e
  refine ⟨a, e2, fun h2 => ?_⟩
  rw [hz h2, e1]
  rfl

theorem HF.ob {α : Type} {x : Option α} {K : α → AH → Option Nx} (f : ∀ a, HF (K a)) : HF (fun h => LA.ob x fun a => K a h) := by
  cases x with
  | none => exact HF.none
  | some a => exact f a
theorem HF.bo {b : Bool} {K : AH → Option Nx} (f : HF K) : HF (fun h => LA.bo b (K h)) := by
  cases b with
  | false => exact HF.none
  | true => exact f
theorem HF.fN {n : Nat} {K : Nat → AH → Option Nx} (f : ∀ n, HF (K n)) : HF (fun h => LA.fN n fun n => K n h) := by
  obtain ⟨Z, hz⟩ := f n
  exact ⟨Z, fun h => by show LA.fN n (fun n => K n h) = _; rw [fN_eq]; exact hz h⟩
theorem HF.asPtr {v : AV} {K : Nat → Nat → AH → Option Nx} (f : ∀ b o, HF (K b o)) : HF (fun h => LA.asPtr v fun b o => K b o h) := by
  cases v <;> first | exact f _ _ | exact HF.none
theorem HF.asBool {v : AV} {K : Bool → AH → Option Nx} (f : ∀ b, HF (K b)) : HF (fun h => LA.asBool v fun b => K b h) := by
  cases v <;> first | exact f _ | exact HF.none
theorem HF.asInt {v : AV} {K : IntKind → Int → AH → Option Nx} (f : ∀ k n, HF (K k n)) : HF (fun h => LA.asInt v fun k n => K k n h) := by
  cases v <;> first | exact f _ _ | exact HF.none
theorem HF.asNat {v : AV} {K : Nat → AH → Option Nx} (f : ∀ n, HF (K n)) : HF (fun h => LA.asNat v fun n => K n h) := by
  cases v with
  | int k n =>
    cases n with
    | ofNat n => exact f n
    | negSucc n => exact HF.none
  | _ => exact HF.none
theorem HF.asStr {v : AV} {K : List Nat → AH → Option Nx} (f : ∀ b, HF (K b)) : HF (fun h => LA.asStr v fun b => K b h) := by
  cases v <;> first | exact f _ | exact HF.none
theorem HF.asAgg {v : AV} {K : List AV → AH → Option Nx} (f : ∀ b, HF (K b)) : HF (fun h => LA.asAgg v fun b => K b h) := by
  cases v <;> first | exact f _ | exact HF.none
theorem HF.asTup {v : AV} {K : List AV → AH → Option Nx} (f : ∀ b, HF (K b)) : HF (fun h => LA.asTup v fun b => K b h) := by
  cases v <;> first | exact f _ | exact HF.none
theorem HF.fieldOff {E : Env} {t f : Nat} {K : Nat → TypeId → AH → Option Nx} (g : ∀ a b, HF (K a b)) : HF (fun h => LA.fieldOff E t f fun a b => K a b h) := by
  unfold LA.fieldOff
  cases tyk E t with
  | struct fs =>
    show HF (fun h => LA.ob (lget fs f) fun p => K p.1 p.2 h)
    exact HF.ob fun p => g _ _
  | _ => exact HF.none

/-- operations that neither look into memory nor turn it -/
def pureOp : Op → Bool
  | .move _ => true
  | .assign _ => true
  | .pick .. => true
  | .build .. => true
  | .nilCheck _ => true
  | .binOp .. => true
  | .unOp .. => true
  | .makeInterface .. => true
  | .makeFunc .. => true
  | .fieldAddr .. => true
  | .field .. => true
  | .indexAddr .. => true
  | .index .. => true
  | .extract .. => true
  | .typeAssert .. => true
  | _ => false

theorem pure_hf {op : Op} (hp : pureOp op = true) (E : Env) (ts : T AV) : HF (fun h => aop op E ts h) := by
  cases op with
  | move x => exact HF.rV (evalO ts x)
  | assign x => exact HF.rV (evalO ts x)
  | pick c a b => exact HF.asBool (v := evalO ts c) (K := fun x h => LA.rV h (Bool.rec (evalO ts b) (evalO ts a) x)) fun x => HF.rV _
  | build t ps =>
    refine HF.ob (x := ti E t) (K := fun i h => LA.ob i.zero fun z => LA.bo i.fok <| LA.ob (buildK E i.k (evp ts ps.toList) z.cells) fun cs => LA.rV h (.agg cs)) fun i => ?_
    refine HF.ob (x := i.zero) (K := fun z h => LA.bo i.fok <| LA.ob (buildK E i.k (evp ts ps.toList) z.cells) fun cs => LA.rV h (.agg cs)) fun z => ?_
    exact HF.bo (HF.ob (x := buildK E i.k (evp ts ps.toList) z.cells) (K := fun cs h => LA.rV h (.agg cs)) fun cs => HF.rV _)
  | nilCheck x =>
    show HF (fun h => nilCk (evalO ts x) h)
    cases evalO ts x <;> first | exact HF.rV _ | exact HF.none
  | binOp op t x y c => exact HF.rO (LA.binOp E (Bool.or (isCst x) (isCst y)) op t (evalO ts x) (evalO ts y))
  | unOp o t x =>
    show HF (fun h => unOpA o (evalO ts x) h)
    cases o with
    | not => exact HF.asBool (v := evalO ts x) (K := fun b h => LA.rV h (.bool (Bool.not b))) fun x => HF.rV _
    | neg => exact HF.asInt (v := evalO ts x) (K := fun k n h => LA.rO h (rI k (Int.sub 0 n))) fun k n => HF.rO _
    | _ => exact HF.none
  | makeInterface t x =>
    show HF (fun h => mkIface E t (evalO ts x) h)
    unfold mkIface
    cases tyk E t <;> first | exact HF.rV _ | exact HF.none
  | makeFunc fn a b =>
    show HF (fun h => mkFunc fn (evs ts a.toList) (evs ts b.toList) h)
    cases fn <;> first | exact HF.rV _ | exact HF.none
  | fieldAddr t x f =>
    refine HF.asPtr (v := evalO ts x) (K := fun b o h => LA.fieldOff E t f fun off ty => LA.ob (ti E ty) fun i => LA.bo (Nat.ble 1 i.size) <| LA.fN (Nat.add o off) fun o => LA.rV h (.ptr b o)) fun b o => ?_
    refine HF.fieldOff (K := fun off ty h => LA.ob (ti E ty) fun i => LA.bo (Nat.ble 1 i.size) <| LA.fN (Nat.add o off) fun o => LA.rV h (.ptr b o)) fun off ty => ?_
    refine HF.ob (x := ti E ty) (K := fun i h => LA.bo (Nat.ble 1 i.size) <| LA.fN (Nat.add o off) fun o => LA.rV h (.ptr b o)) fun i => ?_
    exact HF.bo (HF.fN (K := fun o h => LA.rV h (.ptr b o)) fun o => HF.rV _)
  | field t x f =>
    refine HF.asAgg (v := evalO ts x) (K := fun cs h => LA.fieldOff E t f fun off ty => LA.ob (ti E ty) fun i => LA.rO h (rowGet i cs off)) fun cs => ?_
    refine HF.fieldOff (K := fun off ty h => LA.ob (ti E ty) fun i => LA.rO h (rowGet i cs off)) fun off ty => ?_
    exact HF.ob (x := ti E ty) (K := fun i h => LA.rO h (rowGet i cs off)) fun i => HF.rO _
  | indexAddr t x i =>
    show HF (fun h => indexAd E t (evalO ts x) (evalO ts i) h)
    refine HF.asNat (v := evalO ts i) (K := fun n h => _) fun n => ?_
    cases tyk E t with
    | slice e =>
      refine HF.ob (x := ti E e) (K := fun q h => indexSl q.size (evalO ts x) n h) fun q => ?_
      cases evalO ts x with
      | slice b o l c z ex => exact HF.bo (HF.fN (K := fun o h => LA.rV h (.ptr b o)) fun o => HF.rV _)
      | _ => exact HF.none
    | array m e =>
      refine HF.ob (x := ti E e) (K := fun q h => indexAr q.size m (evalO ts x) n h) fun q => ?_
      refine HF.asPtr (v := evalO ts x) (K := fun b o h => LA.bo (Nat.blt n m) (LA.fN (Nat.add o (Nat.mul n q.size)) fun o => LA.rV h (.ptr b o))) fun b o => ?_
      exact HF.bo (HF.fN (K := fun o h => LA.rV h (.ptr b o)) fun o => HF.rV _)
    | _ => exact HF.none
  | index t x i =>
    refine HF.bo (b := isStrK (tyk E t)) (K := fun h => indexStr (evalO ts x) (evalO ts i) h) ?_
    refine HF.asNat (v := evalO ts i) (K := fun i h => LA.asStr (evalO ts x) fun s => LA.ob (lget s i) fun c => LA.rV h (.int .u8 (Int.ofNat c))) fun n => ?_
    refine HF.asStr (v := evalO ts x) (K := fun s h => LA.ob (lget s n) fun c => LA.rV h (.int .u8 (Int.ofNat c))) fun s => ?_
    exact HF.ob (x := lget s n) (K := fun c h => LA.rV h (.int .u8 (Int.ofNat c))) fun c => HF.rV _
  | extract t i => exact HF.asTup (v := evalO ts t) (K := fun vs h => LA.rO h (lget vs i)) fun vs => HF.rO _
  | typeAssert x s t c =>
    show HF (fun h => assertOp E (evalO ts x) t c h)
    unfold assertOp
    cases tyk E t with
    | iface => exact HF.none
    | other => exact HF.none
    | _ =>
      cases evalO ts x <;> first | exact HF.none | exact HF.bo (HF.rV _)
  | _ => cases hp

/-- operations that look into memory -/
def readOp : Op → Bool
  | .load .. => true
  | .lookup .. => true
  | .convert .. => true
  | .entry _ => true
  | .slice .. => true
  | .call c => match c.callee with
    | .builtin .len => true
    | .builtin .cap => true
    | .builtin .min => true
    | .builtin .max => true
    | _ => false
  | _ => false

def quietOp (op : Op) : Bool := pureOp op || readOp op

/-- a memory that is given back as it was, at each of two ways -/
def Keeps (K : AH → Option Nx) : Prop := ∀ h nx, K h = some nx → ∃ v, nx = .val v h

theorem HR.keeps {K : AH → Option Nx} (f : HR K) : Keeps K := fun _ _ e => f.use e

theorem Keeps.ob {α : Type} {x : AH → Option α} {K : α → AH → Option Nx} (f : ∀ a, Keeps (K a)) : Keeps (fun h => LA.ob (x h) fun a => K a h) := fun h nx e => by
  obtain ⟨a, _, e2⟩ := ob_some e
  exact f a h nx e2
theorem Keeps.bo {b : Bool} {K : AH → Option Nx} (f : Keeps K) : Keeps (fun h => LA.bo b (K h)) := fun h nx e => f h nx (bo_some e).2
theorem Keeps.rV (v : AH → AV) : Keeps (fun h => LA.rV h (v h)) := (HR.rV v).keeps
theorem Keeps.rO (v : AH → Option AV) : Keeps (fun h => LA.rO h (v h)) := (HR.rO v).keeps
theorem Keeps.none : Keeps (fun _ => Option.none) := HR.none.keeps

theorem look_keeps {E : Env} {t : TypeId} {x k : AV} {c : Bool} : Keeps (fun h => lookupOp E t x k c h) := fun h nx e => by
  obtain ⟨kt, el, _, e2⟩ := asMapT_some e
  obtain ⟨es, _, e3⟩ := ob_some e2
  obtain ⟨_, e4⟩ := bo_some (show LA.bo (keyOk E kt k) _ = some nx from e3)
  obtain ⟨r, _, e5⟩ := ob_some e4
  cases r with
  | none =>
    obtain ⟨i, _, e6⟩ := ob_some e5
    obtain ⟨z, _, e7⟩ := ob_some e6
    exact ⟨_, rV_some e7⟩
  | some p => exact ⟨_, rV_some e5⟩

theorem entry_keeps {i : AV} : Keeps (fun h => entryOp i h) := fun h nx e => by
  obtain ⟨r, o, _, e2⟩ := asPtr_some e
  obtain ⟨_, e3⟩ := bo_some e2
  obtain ⟨b, _, e4⟩ := ob_some e3
  cases b with
  | miter m seen clock =>
    obtain ⟨m', _, e5⟩ := ob_some e4
    cases seen with
    | nil => cases e5
    | cons last l =>
      obtain ⟨es, c, _, e6⟩ := asMap_some e5
      obtain ⟨_, e7⟩ := bo_some e6
      obtain ⟨e', _, e8⟩ := ob_some e7
      exact ⟨_, rV_some e8⟩
  | _ => cases e4

theorem len_keeps {k : TK} {x : AV} : Keeps (fun h => lenT k x h) := fun h nx e => by
  have fin : ∀ n, rN h n = some nx → ∃ v, nx = .val v h := fun n e => by rw [rN_eq] at e; cases e; exact ⟨_, rfl⟩
  cases k with
  | string => obtain ⟨s, _, e2⟩ := asStr_some e; exact fin _ e2
  | slice el => cases x <;> first | exact fin _ e | cases e
  | map a b =>
    cases x with
    | nilm => exact fin _ e
    | map b => obtain ⟨es, c, _, e2⟩ := asMap_some e; exact fin _ e2
    | _ => cases e
  | _ => cases e

theorem builtin_keeps {b : Builtin} (hb : b = .len ∨ b = .cap ∨ b = .min ∨ b = .max) {E : Env} {tys : List TypeId} {as : List AV} : Keeps (fun h => builtinOp b E tys as h) := fun h nx e => by
  rcases hb with rfl | rfl | rfl | rfl
  · obtain ⟨a, r, _, e2⟩ := arg1_some e
    obtain ⟨t, rest, _, e3⟩ := arg0T_some e2
    exact len_keeps h nx e3
  · obtain ⟨a, r, _, e2⟩ := arg1_some e
    obtain ⟨t, rest, _, e3⟩ := arg0T_some e2
    obtain ⟨el, _, e4⟩ := asSl_some e3
    obtain ⟨i, _, e5⟩ := ob_some e4
    obtain ⟨_, e6⟩ := bo_some e5
    have fin : ∀ n, rN h n = some nx → ∃ v, nx = .val v h := fun n e => by rw [rN_eq] at e; cases e; exact ⟨_, rfl⟩
    cases a with
    | nils => exact fin _ e6
    | slice b o l c z ex => exact fin _ (bo_some e6).2
    | _ => cases e6
  · obtain ⟨a, b, _, e2⟩ := arg2x_some e
    obtain ⟨k, n, _, e3⟩ := asInt_some e2
    obtain ⟨k, n, _, e4⟩ := asInt_some e3
    exact ⟨_, rV_some e4⟩
  · obtain ⟨a, b, _, e2⟩ := arg2x_some e
    obtain ⟨k, n, _, e3⟩ := asInt_some e2
    obtain ⟨k, n, _, e4⟩ := asInt_some e3
    exact ⟨_, rV_some e4⟩

/-- a quiet operation that allocated nothing gives back the memory, then and whenever it is asked again -/
def Quiet1 (K : AH → Option Nx) : Prop := ∀ h nx, K h = some nx → ∃ v h', nx = .val v h' ∧ (h'.next = h.next → h' = h ∧ ∀ h2 nx2, K h2 = some nx2 → ∃ v2, nx2 = .val v2 h2)
theorem Keeps.quiet1 {K : AH → Option Nx} (k : Keeps K) : Quiet1 K := fun h nx e => by
  obtain ⟨v, e2⟩ := k h nx e
  exact ⟨v, h, e2, fun _ => ⟨rfl, k⟩⟩

theorem conv_quiet {E : Env} {s d : TypeId} {x : AV} : Quiet1 (fun h => LA.convOp E s d x h) := by
  unfold LA.convOp
  have sl : ∀ x, Keeps (fun h => convSl E s d x h) := fun x h nx e => by
    obtain ⟨el, _, e2⟩ := asSl_some e
    obtain ⟨_, e3⟩ := bo_some e2
    obtain ⟨n, _, e4⟩ := ob_some e3
    obtain ⟨cs, _, e5⟩ := ob_some e4
    obtain ⟨q, _, e6⟩ := ob_some e5
    exact ⟨_, rV_some e6⟩
  cases x with
  | int k n =>
    refine Keeps.quiet1 fun h nx e => ?_
    obtain ⟨i, _, e2⟩ := ob_some e
    have e2 : convInt (tyk E d) n h = some nx := e2
    unfold convInt at e2
    cases hk : tyk E d with
    | int k => rw [hk] at e2; obtain ⟨a, _, e3⟩ := rO_some e2; exact ⟨a, e3⟩
    | _ => rw [hk] at e2; cases e2
  | str x =>
    show Quiet1 (fun h => convStr E s d x h)
    cases hk : tyk E d with
    | string =>
      refine Keeps.quiet1 fun h nx e => ?_
      obtain ⟨_, e2⟩ := bo_some (show LA.bo (isStrK (tyk E s)) _ = some nx from e)
      rw [hk] at e2
      exact ⟨_, rV_some e2⟩
    | slice el =>
      intro h nx e
      obtain ⟨_, e2⟩ := bo_some (show LA.bo (isStrK (tyk E s)) _ = some nx from e)
      rw [hk] at e2
      obtain ⟨_, e3⟩ := bo_some (show LA.bo (isU8 E el) _ = some nx from e2)
      rw [newRow_eq] at e3
      have := rV_some e3; subst this
      exact ⟨_, _, rfl, fun hn => absurd hn (by simp)⟩
    | _ =>
      refine Keeps.quiet1 fun h nx e => ?_
      obtain ⟨_, e2⟩ := bo_some (show LA.bo (isStrK (tyk E s)) _ = some nx from e)
      rw [hk] at e2
      cases e2
  | ab k lo hi m r =>
    refine Keeps.quiet1 fun h nx e => ?_
    obtain ⟨i, _, e2⟩ := ob_some e
    have e2 : convAb (tyk E d) lo hi m r h = some nx := e2
    unfold convAb at e2
    cases hk : tyk E d with
    | int k => rw [hk] at e2; obtain ⟨a, _, e3⟩ := rO_some e2; exact ⟨a, e3⟩
    | _ => rw [hk] at e2; cases e2
  | nils => exact (sl _).quiet1
  | slice b o l c z ex => exact (sl _).quiet1
  | _ => exact Keeps.quiet1 fun h nx e => by cases e

theorem quiet_op {op : Op} (hq : quietOp op = true) (E : Env) (ts : T AV) : Quiet1 (fun h => aop op E ts h) := by
  unfold quietOp at hq
  rw [Bool.or_eq_true] at hq
  rcases hq with hq | hq
  · exact ((pure_hf hq E ts).hr.keeps).quiet1
  · cases op with
    | load t a =>
      refine Keeps.quiet1 fun h nx e => ?_
      obtain ⟨b, o, _, e2⟩ := asPtr_some (show LA.asPtr (evalO ts a) _ = some nx from e)
      obtain ⟨a, _, e3⟩ := rO_some e2
      exact ⟨a, e3⟩
    | lookup t x i c => exact (look_keeps (E := E) (t := t) (x := evalO ts x) (k := evalO ts i) (c := c)).quiet1
    | convert s d x => exact conv_quiet (E := E) (s := s) (d := d) (x := evalO ts x)
    | entry i => exact (entry_keeps (i := evalO ts i)).quiet1
    | slice t x lo hi mx => exact (Keeps.rO fun h => LA.sliceOp E t (evalO ts x) (evo ts lo) (evo ts hi) (evo ts mx) h).quiet1
    | call c =>
      obtain ⟨cal, args, ats⟩ := c
      cases cal with
      | builtin b =>
        have hb : b = .len ∨ b = .cap ∨ b = .min ∨ b = .max := by
          cases b <;> first | exact .inl rfl | exact .inr (.inl rfl) | exact .inr (.inr (.inl rfl)) | exact .inr (.inr (.inr rfl)) | cases hq
        exact (builtin_keeps hb (E := E) (tys := ats.toList) (as := evs ts args.toList)).quiet1
      | _ => cases hq
    | _ => cases hq

/-! ## operations that only make a block -/
def floatOp : Op → Bool
  | .alloc _ => true
  | .buildSlice .. => true
  | .makeSlice .. => true
  | _ => false

section
variable {P : Program} {ck : Chk} {μ : Mu} {h : AH} {w : World}

/-- a block that lies ahead comes to be -/
theorem R.realize (r : R ck μ h w) {b : Nat} {cs : List AV} (hb : T.get h.t b = some (.row cs (.own []))) (hn : μ b = none) {rcs : List Value} (hv : VRs μ cs rcs) (e : TypeId) :
    R ck (μ.upd b ⟨w.heap.size, 0, rcs.length⟩) h (w.alloc (.cells ⟨rcs⟩ e)) := by
  have hle := Mu.le_upd (μ := μ) (b := b) ⟨w.heap.size, 0, rcs.length⟩ hn
  have hold : ∀ i, i < w.heap.size → (w.alloc (.cells ⟨rcs⟩ e)).heap[i]? = w.heap[i]? := fun i hi => push_get _ _ _ hi
  constructor
  · exact r.live
  · intro x blk L e1 e2
    by_cases hx : x = b
    · subst hx
      rw [hb] at e1; cases e1
      rw [Mu.upd_same] at e2; cases e2
      refine ⟨⟨rcs⟩, e, (0, 0), World.alloc_heap_new w _, by simp, by simp [hv.length], ?_, fun o _ => by simp⟩
      intro i v hi
      obtain ⟨rv, k1, k2⟩ := hv.get hi
      exact ⟨rv, by simpa using k1, k2.mono hle⟩
    · rw [Mu.upd_ne _ _ hx] at e2
      exact (r.rel x blk L e1 e2).keep hle (hold _ (r.dom _ _ e2).2)
  · intro x L e1
    by_cases hx : x = b
    · subst hx; rw [Mu.upd_same] at e1; cases e1
      exact ⟨r.live _ _ hb, by simp⟩
    · rw [Mu.upd_ne _ _ hx] at e1
      have := r.dom _ _ e1
      exact ⟨this.1, by simp; omega⟩
  · intro b1 b2 blk1 blk2 L1 L2 hne e1 e2 m1 m2 hx
    by_cases h1 : b1 = b
    · have h2 : b2 ≠ b := fun e => hne (h1.trans e.symm)
      rw [h1, Mu.upd_same] at m1; cases m1
      rw [Mu.upd_ne _ _ h2] at m2
      have := (r.dom _ _ m2).2
      show w.heap.size ≠ _; omega
    · by_cases h2 : b2 = b
      · rw [h2, Mu.upd_same] at m2; cases m2
        rw [Mu.upd_ne _ _ h1] at m1
        have := (r.dom _ _ m1).2
        show _ ≠ w.heap.size; omega
      · rw [Mu.upd_ne _ _ h1] at m1; rw [Mu.upd_ne _ _ h2] at m2
        exact r.sep b1 b2 blk1 blk2 L1 L2 hne e1 e2 m1 m2 hx
  · intro x cs2 l L e1 m y hy
    by_cases hx : x = b
    · subst hx
      rw [hb] at e1; cases e1; cases hy
    · rw [Mu.upd_ne _ _ hx] at m
      obtain ⟨⟨M, hM⟩, hw, he⟩ := r.anc x cs2 l L e1 m y hy
      refine ⟨⟨M, hle _ _ hM⟩, hw, fun csx mx M' e2 m2 q => ?_⟩
      have hyb : y ≠ b := fun e => by rw [e, hn] at hM; cases hM
      rw [Mu.upd_ne _ _ hyb] at m2
      exact he csx mx M' e2 m2 q
  · intro rb c e1
    obtain ⟨⟨t, f, f1⟩, f2⟩ := r.fix rb c e1
    have hlt := heap_lt f1
    refine ⟨⟨t, f, by rw [hold rb hlt]; exact f1⟩, fun x L m => ?_⟩
    by_cases hb' : x = b
    · rw [hb', Mu.upd_same] at m; cases m; show w.heap.size ≠ rb; omega
    · rw [Mu.upd_ne _ _ hb'] at m; exact f2 x L m

/-- a block that nobody has yet -/
theorem R.ahead (r : R ck μ h w) (cs : List AV) : R ck μ ⟨h.next + 1, T.set h.t h.next (.row cs (.own []))⟩ w := by
  have hnone : μ h.next = none := by
    cases e : μ h.next with
    | none => rfl
    | some L => exact absurd (r.dom _ _ e).1 (Nat.lt_irrefl _)
  have hne : ∀ x L, μ x = some L → x ≠ h.next := fun x L e q => by rw [q, hnone] at e; cases e
  constructor
  · intro x blk e1
    simp only [T.get_set] at e1
    split at e1
    · show x < h.next + 1; omega
    · exact Nat.lt_succ_of_lt (r.live _ _ e1)
  · intro x blk L e1 e2
    simp only [T.get_set_ne _ _ (hne _ _ e2)] at e1
    exact r.rel x blk L e1 e2
  · intro x L e1
    exact ⟨Nat.lt_succ_of_lt (r.dom _ _ e1).1, (r.dom _ _ e1).2⟩
  · intro b1 b2 blk1 blk2 L1 L2 hn e1 e2 m1 m2 hx
    simp only [T.get_set_ne _ _ (hne _ _ m1)] at e1
    simp only [T.get_set_ne _ _ (hne _ _ m2)] at e2
    exact r.sep b1 b2 blk1 blk2 L1 L2 hn e1 e2 m1 m2 hx
  · intro x cs2 l L e1 m y hy
    simp only [T.get_set_ne _ _ (hne _ _ m)] at e1
    obtain ⟨⟨M, hM⟩, hw, he⟩ := r.anc x cs2 l L e1 m y hy
    refine ⟨⟨M, hM⟩, fun blk e2 => ?_, fun csx mx M' e2 m2 q => ?_⟩
    · simp only [T.get_set_ne _ _ (hne _ _ hM)] at e2
      exact hw blk e2
    · simp only [T.get_set_ne _ _ (hne _ _ hM)] at e2
      exact he csx mx M' e2 m2 q
  · exact r.fix

/-- what a block's making does on either side -/
def FloatS (P : Program) (μ : Mu) (w : World) (s : Sem Value) (cs : List AV) (g : Nat → AV) : Prop :=
  ∃ rcs e rv, s.run P w = .ok rv (w.alloc (.cells ⟨rcs⟩ e)) ∧ VRs μ cs rcs ∧ ∀ (μ' : Mu) (b : Nat), μ' b = some ⟨w.heap.size, 0, rcs.length⟩ → VR μ' (g b) rv

theorem alloc_float {E : Env} (ok : EnvOk P E) {t : TypeId} {nx : Nx} (ha : allocOp E t h = some nx) : ∃ (cs : List AV) (g : Nat → AV), (∀ h2, allocOp E t h2 = some (.val (g h2.next) ⟨h2.next + 1, T.set h2.t h2.next (.row cs (.own []))⟩)) ∧ ∀ μ w, FloatS P μ w (Instr.alloc t true (.tuple #[])) cs g := by
  obtain ⟨i, h1, h2⟩ := ob_some ha
  obtain ⟨z, h3, h4⟩ := ob_some h2
  refine ⟨z.cells, fun b => .ptr b 0, fun h2 => ?_, fun μ w => ?_⟩
  · unfold allocOp
    rw [h1]
    show ob i.zero _ = _
    rw [h3]
    show newRow h2 z.cells _ = _
    rw [newRow_eq]; rfl
  · obtain ⟨q, v, q1, q2, q3, q4⟩ := zero_conv (ti_some ok h1) h3
    have hc : VRs μ z.cells v.cells.toList := q3 ▸ conv_cells μ v
    refine ⟨v.cells.toList, t, .pointer (some ⟨w.heap.size, 0, none⟩), ?_, hc, fun μ' b e => ?_⟩
    · have : (⟨v.cells.toList⟩ : Array Value) = v.cells := rfl
      rw [this]
      simp [Instr.alloc, zeroValue, run_typeInfo' q1, q2, newVar, Go.newRow]
    · have := VR.ptr (μ := μ') (b := b) 0 e
      simpa using this

theorem mkSlice_float {sz n : Nat} {ex : Bool} {cs : List AV} (h2 : AH) : mkSlice sz n ex cs h2 = some (.val (.slice h2.next 0 n n sz ex) ⟨h2.next + 1, T.set h2.t h2.next (.row cs (.own []))⟩) := by
  unfold mkSlice
  rw [newRow_eq]

theorem buildSl_float {E : Env} (ok : EnvOk P E) {t : TypeId} {len : Nat} {parts : List (Nat × AV)} {nx : Nx} (ha : buildSlOp E t len parts h = some nx) : ∃ (cs : List AV) (g : Nat → AV), (∀ h2, buildSlOp E t len parts h2 = some (.val (g h2.next) ⟨h2.next + 1, T.set h2.t h2.next (.row cs (.own []))⟩)) ∧
    ∀ μ w (rparts : Array (Nat × Value)), PRs μ parts rparts.toList → FloatS P μ w (Instr.buildSlice t len rparts) cs g := by
  obtain ⟨e, h1, h2⟩ := asSl_some ha
  have hu := und_slice ok h1
  obtain ⟨i, h3, h4⟩ := ob_some h2
  obtain ⟨z, h5, h6⟩ := ob_some h4
  obtain ⟨h7, h8⟩ := bo_some h6
  have h7' : Nat.beq (llen z.cells) i.size = true ∧ Nat.ble (len * i.size) 65536 = true := by simpa using h7
  rw [llen_eq] at h7'
  have hzl : z.cells.length = i.size := Nat.eq_of_beq_eq_true h7'.1
  have hsm : len * i.size ≤ 65536 := Nat.le_of_ble_eq_true h7'.2
  obtain ⟨cs, h9, h10⟩ := ob_some h8
  refine ⟨cs, fun b => .slice b 0 len len i.size true, fun h2 => ?_, fun μ w rparts hp => ?_⟩
  · unfold buildSlOp
    rw [h1]
    show ob (ti E e) _ = _
    rw [h3]
    show ob i.zero _ = _
    rw [h5]
    show bo _ _ = _
    rw [h7]
    show ob (LA.fill _ _ _) _ = _
    rw [h9]
    exact mkSlice_float h2
  · obtain ⟨q, v, q1, q2, q3, q4⟩ := zero_conv (ti_some ok h3) h5
    have hc : VRs μ z.cells v.cells.toList := q3 ▸ conv_cells μ v
    have hvs : v.cells.size = i.size := by rw [← conv_cells_length, q3]; exact hzl
    have hl := fill_length _ _ _ _ h9
    rw [lrep_eq] at h9 hl
    have hcl : cs.length = len * i.size := by rw [hl]; simp [hzl]
    have fin : ∀ (rcs : Array Value), VRs μ cs rcs.toList → ∀ (μ' : Mu) (b : Nat), μ' b = some ⟨w.heap.size, 0, rcs.toList.length⟩ → VR μ' (.slice b 0 len len i.size true) (.slice (some ⟨w.heap.size, 0, none⟩) len len) := by
      intro rcs hr μ' b hb
      have hrl := hr.length
      have := VR.slice (μ := μ') (b := b) 0 len len i.size true len hb (Nat.le_refl _) (Nat.le_refl _) (fun _ => rfl) (by simp only [hrl, hcl]; omega)
      simpa using this
    by_cases hz : len * i.size = 0
    · have hcs : cs = [] := by rw [hz] at hcl; exact List.eq_nil_of_length_eq_zero hcl
      obtain ⟨rcs', k1, k2⟩ := fill_ok (rplace := fun j => some (j * i.size, i.size)) (fun j q hq => by cases hq; rfl) hp (rcs := #[]) (cs := (List.replicate len z.cells).flatten) (by
        have : (List.replicate len z.cells).flatten = [] := List.eq_nil_of_length_eq_zero (by rw [← hl]; rw [hcs]; rfl)
        rw [this]; exact .nil) h9
      refine ⟨rcs'.toList, e, _, ?_, k2, fin rcs' k2⟩
      have e0 : ∀ g : Nat → Value, Array.map g (Array.range 0) = #[] := fun g => Array.ext' (by simp)
      simp [Instr.buildSlice, run_underlying hu, Go.sizeOf, run_typeInfo' q1, q4, hz, e0, k1, Go.newRow]
    · have hzz : (Array.range (len * i.size)).map (v.cells[· % v.cells.size]!) = (Array.range (len * v.cells.size)).map (fun j => v.cells[j % v.cells.size]!) := by rw [hvs]
      obtain ⟨rcs', k1, k2⟩ := fill_ok (rplace := fun j => some (j * i.size, i.size)) (fun j q hq => by cases hq; rfl) hp (rcs := (Array.range (len * i.size)).map (v.cells[· % v.cells.size]!)) (by
        rw [hzz, zeros_toList]; exact hc.replicate len) h9
      refine ⟨rcs'.toList, e, _, ?_, k2, fin rcs' k2⟩
      exact run_buildSlice w t e len rparts rcs' q v hu q1 q2 (by rw [q4]; omega) (by rw [q4]; exact hz) (by rw [q4]; exact k1)

theorem makeSl_float {E : Env} (ok : EnvOk P E) {t : TypeId} {l c : AV} {nx : Nx} (ha : makeSlOp E t l c h = some nx) : ∃ (cs : List AV) (g : Nat → AV), (∀ h2, makeSlOp E t l c h2 = some (.val (g h2.next) ⟨h2.next + 1, T.set h2.t h2.next (.row cs (.own []))⟩)) ∧
    ∀ μ w (rl rc : Value), VR μ l rl → VR μ c rc → FloatS P μ w (Instr.makeSlice t rl rc) cs g := by
  obtain ⟨e, h1, h2⟩ := asSl_some ha
  have hu := und_slice ok h1
  obtain ⟨kl, nl, rfl, h3⟩ := asNat_some h2
  obtain ⟨kc, nc, rfl, h4⟩ := asNat_some h3
  obtain ⟨h5, h6⟩ := bo_some h4
  have h5' : fits nc = true ∧ Nat.ble nl nc = true := (Bool.and_eq_true _ _).mp h5
  have hfit : nc ≤ 1048576 := Nat.le_of_ble_eq_true h5'.1
  have hlc : nl ≤ nc := Nat.le_of_ble_eq_true h5'.2
  obtain ⟨i, h7, h8⟩ := ob_some h6
  obtain ⟨hsm, h8⟩ := bo_some h8
  obtain ⟨z, h9, h10⟩ := ob_some h8
  obtain ⟨hzl0, h10⟩ := bo_some h10
  have hzl := hzl0
  rw [llen_eq] at hzl
  have hzl' : z.cells.length = i.size := Nat.eq_of_beq_eq_true hzl
  refine ⟨lrep z.cells nc, fun b => .slice b 0 nl nc i.size true, fun h2 => ?_, fun μ w rl rc hl hc => ?_⟩
  · unfold makeSlOp
    rw [h1]
    show bo _ _ = _
    rw [h5]
    show ob (ti E e) _ = _
    rw [h7]
    show bo i.small _ = _
    rw [hsm]
    show ob i.zero _ = _
    rw [h9]
    show bo _ _ = _
    rw [hzl0]
    show newRow h2 _ _ = _
    rw [newRow_eq]; rfl
  · have hi := ti_some ok h7
    obtain ⟨q, v, q1, q2, q3, q4⟩ := zero_conv hi h9
    have hcv : VRs μ z.cells v.cells.toList := q3 ▸ conv_cells μ v
    have hvs : v.cells.size = i.size := by rw [← conv_cells_length, q3]; exact hzl'
    have hb := TI_bytes hi hsm q1
    cases hl; cases hc
    have hrun := run_make (P := P) w t e q v hu q1 q2 kl kc (Int.ofNat nl) (Int.ofNat nc) (Int.natCast_nonneg nl) (Int.ofNat_le.mpr hlc) (by
      have : q.bytes * nc ≤ 65536 * 1048576 := Nat.mul_le_mul hb hfit
      have h3 : (q.bytes : Int) * Int.ofNat nc = ((q.bytes * nc : Nat) : Int) := (Int.natCast_mul _ _).symm
      rw [h3]; omega) (by
      have h3 : Int.ofNat nc = (nc : Int) := rfl
      rw [h3]; omega)
    have hcells : madeCells v.cells ((Int.ofNat nc).toNat * q.size) = (Array.range (nc * v.cells.size)).map (fun j => v.cells[j % v.cells.size]!) := by
      unfold madeCells; rw [q4, hvs]; rfl
    rw [hcells] at hrun
    rw [lrep_eq]
    have hall : VRs μ (List.replicate nc z.cells).flatten ((Array.range (nc * v.cells.size)).map (fun j => v.cells[j % v.cells.size]!)).toList := by rw [zeros_toList]; exact hcv.replicate nc
    refine ⟨((Array.range (nc * v.cells.size)).map (fun j => v.cells[j % v.cells.size]!)).toList, e, _, hrun, hall, fun μ' b hb => ?_⟩
    have hlen : ((Array.range (nc * v.cells.size)).map (fun j => v.cells[j % v.cells.size]!)).toList.length = nc * i.size := by simp [hvs]
    rw [hlen] at hb
    have := VR.slice (μ := μ') (b := b) 0 nl nc i.size true nc hb hlc (Nat.le_refl _) (fun _ => rfl) (by simp)
    simpa using this

/-- an operation that makes a block: what it tells, whenever; what it does, whenever -/
theorem float_op {E : Env} (ok : EnvOk P E) {o : Oper} (hf : floatOp o.op = true) {ts : T AV} {nx : Nx} (ha : aop o.op E ts h = some nx) : ∃ (cs : List AV) (g : Nat → AV), (∀ h2, aop o.op E ts h2 = some (.val (g h2.next) ⟨h2.next + 1, T.set h2.t h2.next (.row cs (.own []))⟩)) ∧
    ∀ μ (w : World) (tmps : Array Value) d, TsR μ ts tmps → ∃ rcs e rv, (execOp (Act.eval ⟨tmps, d⟩) o).run P w = .ok (.value rv) (w.alloc (.cells ⟨rcs⟩ e)) ∧ VRs μ cs rcs ∧ ∀ (μ' : Mu) (b : Nat), μ' b = some ⟨w.heap.size, 0, rcs.length⟩ → VR μ' (g b) rv := by
  obtain ⟨dst, op, ty, pos, after, guard⟩ := o
  have fin : ∀ {μ : Mu} {w : World} {s : Sem Value} {cs : List AV} {g : Nat → AV}, FloatS P μ w s cs g → ∃ rcs e rv, (do pure (.value (← s)) : Sem Next).run P w = .ok (.value rv) (w.alloc (.cells ⟨rcs⟩ e)) ∧ VRs μ cs rcs ∧ ∀ (μ' : Mu) (b : Nat), μ' b = some ⟨w.heap.size, 0, rcs.length⟩ → VR μ' (g b) rv := by
    intro μ w s cs g ⟨rcs, e, rv, h1, h2, h3⟩
    exact ⟨rcs, e, rv, by simp [h1], h2, h3⟩
  cases op with
  | alloc t =>
    obtain ⟨cs, g, h1, h2⟩ := alloc_float ok (show allocOp E t h = some nx from ha)
    exact ⟨cs, g, h1, fun μ w tmps d tr => fin (h2 μ w)⟩
  | buildSlice t n ps =>
    obtain ⟨cs, g, h1, h2⟩ := buildSl_float ok (show buildSlOp E t n (evp ts ps.toList) h = some nx from ha)
    refine ⟨cs, g, h1, fun μ w tmps d tr => ?_⟩
    have hp : PRs μ (evp ts ps.toList) (ps.map fun (i, x) => (i, Act.eval ⟨tmps, d⟩ x)).toList := by
      rw [Array.toList_map]
      exact evp_ok tr d ps.toList
    exact fin (h2 μ w _ hp)
  | makeSlice t l c =>
    obtain ⟨cs, g, h1, h2⟩ := makeSl_float ok (show makeSlOp E t (evalO ts l) (evalO ts c) h = some nx from ha)
    exact ⟨cs, g, h1, fun μ w tmps d tr => fin (h2 μ w _ _ (evalO_ok tr d l) (evalO_ok tr d c))⟩
  | _ => cases hf
end
end LA

namespace LA
open Go hiding Loc

/-! ## the check of a drawn region's hint -/
def binding (o : Oper) : List Nat := (o.after.toList.filter fun e => Region.binds .any e).map (·.on)

def lookM (j : Nat) : List (Nat × Nat) → Nat
  | [] => 0
  | p :: l => bif Nat.beq p.1 j then p.2 else lookM j l

def maskOf (tab : List (Nat × Nat)) : List Nat → Nat
  | [] => 0
  | j :: l => Nat.lor (Nat.lor (Nat.pow 2 j) (lookM j tab)) (maskOf tab l)

def tb (m i : Nat) : Bool := Nat.beq (Nat.mod (Nat.div m (Nat.pow 2 i)) 2) 1
theorem tb_eq (m i : Nat) : tb m i = m.testBit i := by
  unfold tb
  rw [Nat.testBit_eq_decide_div_mod_eq]
  show Nat.beq (m / 2 ^ i % 2) 1 = _
  rw [Bool.eq_iff_iff, decide_eq_true_iff]
  exact ⟨Nat.eq_of_beq_eq_true, fun h => by rw [h]; rfl⟩

structure RA where
  i : Nat
  o : Oper
  m : Nat
  k : Nat
  ck : Nat

/-- 0: tells, of no memory; 1: tells, of memory; 2: makes a block ahead of all; 3: whatever turns memory -/
def kindOf (o : Oper) (eff chain : Bool) : Option Nat :=
  bif eff then (bif floatOp o.op && !chain then some 2 else some 3) else bif pureOp o.op then some 0 else bif readOp o.op then some 1 else none

def mkRA (all : List Oper) : List HAct → List (Nat × Nat) → Bool → Option (List RA)
  | [], _, _ => some []
  | a :: rest, tab, c => match all[a.i]? with
    | none => none
    | some o => match kindOf o a.eff c with
      | none => none
      | some k => match mkRA all rest ((a.i, maskOf tab (binding o)) :: tab) (c || Nat.beq k 3) with
        | none => none
        | some l => some (⟨a.i, o, maskOf tab (binding o), k, a.ck⟩ :: l)

def ckOk (k : Nat) : Nat → List RA → Bool
  | _, [] => true
  | c, a :: rest => bif Nat.ble a.k 1 then ckOk k c rest else bif Nat.beq a.k 3 && tb a.m k then true else match c with
    | 0 => false
    | c + 1 => ckOk k c rest

def tmpsL : List Operand → List Nat
  | [] => []
  | .tmp t :: l => t :: tmpsL l
  | _ :: l => tmpsL l

def laterOk (i j : Nat) : List RA → Bool
  | [] => false
  | y :: l => bif Nat.beq y.i j then tb y.m i else laterOk i j l

def looksOk (ws : List (Nat × Nat)) (a : RA) (rest : List RA) : Bool :=
  ((tmpsL a.o.op.operands.toList).all fun t => ws.all fun p => !(Nat.beq p.1 t) || (tb a.m p.2 || laterOk a.i p.2 rest)) && (match a.o.guard with | none => true | some g => tb a.m g.1)

def chainOk (m : Nat) : Option Nat → Bool
  | none => true
  | some p => tb m p

def entryOk (a : RA) (pc : Option Nat) (rest : List RA) : Bool :=
  bif Nat.beq a.k 0 then true else bif Nat.beq a.k 1 then chainOk a.m pc && ckOk a.i a.ck rest else bif Nat.beq a.k 2 then pc.isNone else chainOk a.m pc

def chk2 (n : Nat) (ws : List (Nat × Nat)) : List RA → Nat → Option Nat → Bool
  | [], D, _ => (List.range n).all fun i => tb D i
  | a :: rest, D, pc => !(tb D a.i) && (binding a.o).all (fun j => tb D j) && looksOk ws a rest && entryOk a pc rest && chk2 n ws rest (Nat.lor D (Nat.pow 2 a.i)) (bif Nat.beq a.k 3 then some a.i else pc)

def writers : List Oper → Nat → List (Nat × Nat)
  | [], _ => []
  | o :: l, i => match o.dst with
    | none => writers l (i + 1)
    | some d => (d, i) :: writers l (i + 1)

def distinct : List (Nat × Nat) → Nat → Bool
  | [], _ => true
  | p :: l, D => !(tb D p.1) && distinct l (Nat.lor D (Nat.pow 2 p.1))

def chkRegion (hs : List HAct) (all : List Oper) : Bool :=
  match mkRA all hs [] false with
  | none => false
  | some ras => distinct (writers all 0) 0 && chk2 all.length (writers all 0) ras 0 none

/-! what the check says -/
def Closed (all : List Oper) (S : Nat → Bool) : Prop := ∀ k o, S k = true → all[k]? = some o → ∀ j ∈ binding o, S j = true

/-- whoever has all that binds an operation has this one, too -/
def Dom (all : List Oper) (o : Oper) (i : Nat) : Prop := ∀ S, Closed all S → (∀ j ∈ binding o, S j = true) → S i = true

theorem tb_lor (a b i : Nat) : tb (Nat.lor a b) i = (tb a i || tb b i) := by
  simp only [tb_eq]; exact Nat.testBit_or a b i
theorem tb_pow (j i : Nat) : tb (Nat.pow 2 j) i = decide (j = i) := by
  rw [tb_eq]; exact Nat.testBit_two_pow
theorem tb_zero (i : Nat) : tb 0 i = false := by rw [tb_eq]; exact Nat.zero_testBit i

def TabOk (all : List Oper) (tab : List (Nat × Nat)) : Prop := ∀ p ∈ tab, ∃ o, all[p.1]? = some o ∧ ∀ i, tb p.2 i = true → Dom all o i

theorem lookM_mem {j i : Nat} : ∀ {tab : List (Nat × Nat)}, tb (lookM j tab) i = true → ∃ p ∈ tab, p.1 = j ∧ tb p.2 i = true
  | [], h => by rw [show lookM j [] = 0 from rfl, tb_zero] at h; cases h
  | p :: l, h => by
    unfold lookM at h
    cases hb : Nat.beq p.1 j with
    | true => rw [hb] at h; exact ⟨p, List.mem_cons_self, Nat.eq_of_beq_eq_true hb, h⟩
    | false =>
      rw [hb] at h
      obtain ⟨q, h1, h2⟩ := lookM_mem (tab := l) h
      exact ⟨q, List.mem_cons_of_mem _ h1, h2⟩

theorem maskOf_bit {tab : List (Nat × Nat)} {i : Nat} : ∀ {l : List Nat}, tb (maskOf tab l) i = true → ∃ j ∈ l, i = j ∨ ∃ p ∈ tab, p.1 = j ∧ tb p.2 i = true
  | [], h => by rw [show maskOf tab [] = 0 from rfl, tb_zero] at h; cases h
  | j :: l, h => by
    unfold maskOf at h
    rw [tb_lor, tb_lor, tb_pow, Bool.or_eq_true, Bool.or_eq_true] at h
    rcases h with (h | h) | h
    · exact ⟨j, List.mem_cons_self, .inl (of_decide_eq_true h).symm⟩
    · exact ⟨j, List.mem_cons_self, .inr (lookM_mem h)⟩
    · obtain ⟨q, h1, h2⟩ := maskOf_bit h
      exact ⟨q, List.mem_cons_of_mem _ h1, h2⟩

theorem mask_dom {all : List Oper} {tab : List (Nat × Nat)} (ht : TabOk all tab) {o : Oper} {i : Nat} (h : tb (maskOf tab (binding o)) i = true) : Dom all o i := by
  intro S hS hb
  obtain ⟨j, h1, h2⟩ := maskOf_bit h
  rcases h2 with rfl | ⟨p, g1, g2, g3⟩
  · exact hb _ h1
  · obtain ⟨o2, k1, k2⟩ := ht p g1
    exact k2 i g3 S hS (hS p.1 o2 (g2 ▸ hb j h1) k1)

/-- what holds of an entry of a hint's list by itself -/
def RaOk1 (all : List Oper) (a : RA) : Prop := all[a.i]? = some a.o ∧ (∀ i, tb a.m i = true → Dom all a.o i) ∧ (a.k = 0 ∧ pureOp a.o.op = true ∨ a.k = 1 ∧ readOp a.o.op = true ∨ a.k = 2 ∧ floatOp a.o.op = true ∨ a.k = 3)

theorem mkRA_ok {all : List Oper} : ∀ (hs : List HAct) (tab : List (Nat × Nat)) (c : Bool) (ras : List RA), TabOk all tab → mkRA all hs tab c = some ras →
    (∀ a ∈ ras, RaOk1 all a) ∧ (c = true → ∀ a ∈ ras, a.k ≠ 2) ∧ ras.map (fun a => (a.i, Nat.ble 2 a.k, a.ck)) = hs.map (fun a => (a.i, a.eff, a.ck))
  | [], _, _, ras, _, e => by cases e; exact ⟨fun a h => (by cases h), fun _ a h => (by cases h), rfl⟩
  | a :: rest, tab, c, ras, ht, e => by
    unfold mkRA at e
    cases ho : all[a.i]? with
    | none => rw [ho] at e; cases e
    | some o =>
      rw [ho] at e
      dsimp only at e
      cases hk : kindOf o a.eff c with
      | none => rw [hk] at e; cases e
      | some k =>
        rw [hk] at e
        dsimp only at e
        have ht' : TabOk all ((a.i, maskOf tab (binding o)) :: tab) := by
          intro p hp
          rcases List.mem_cons.1 hp with rfl | hp
          · exact ⟨o, ho, fun i hi => mask_dom ht hi⟩
          · exact ht p hp
        cases hl : mkRA all rest ((a.i, maskOf tab (binding o)) :: tab) (c || Nat.beq k 3) with
        | none => rw [hl] at e; cases e
        | some l =>
          rw [hl] at e
          cases e
          obtain ⟨q1, q2, q3⟩ := mkRA_ok rest _ _ l ht' hl
          have hkk : (k = 0 ∧ pureOp o.op = true ∨ k = 1 ∧ readOp o.op = true ∨ k = 2 ∧ floatOp o.op = true ∨ k = 3) ∧ (c = true → k ≠ 2) ∧ Nat.ble 2 k = a.eff := by
            unfold kindOf at hk
            cases he : a.eff with
            | true =>
              rw [he] at hk
              cases hf : (floatOp o.op && !c) with
              | true =>
                rw [hf] at hk; cases hk
                rw [Bool.and_eq_true] at hf
                refine ⟨.inr (.inr (.inl ⟨rfl, hf.1⟩)), fun hc => ?_, rfl⟩
                rw [hc] at hf; exact absurd hf.2 (by simp)
              | false => rw [hf] at hk; cases hk; exact ⟨.inr (.inr (.inr rfl)), fun _ => by omega, rfl⟩
            | false =>
              rw [he] at hk
              cases hf : pureOp o.op with
              | true => rw [hf] at hk; cases hk; exact ⟨.inl ⟨rfl, rfl⟩, fun _ => by omega, rfl⟩
              | false =>
                rw [hf] at hk
                cases hr : readOp o.op with
                | true => rw [hr] at hk; cases hk; exact ⟨.inr (.inl ⟨rfl, rfl⟩), fun _ => by omega, rfl⟩
                | false => rw [hr] at hk; cases hk
          refine ⟨fun x hx => ?_, fun hc x hx => ?_, ?_⟩
          · rcases List.mem_cons.1 hx with rfl | hx
            · exact ⟨ho, fun i hi => mask_dom ht hi, hkk.1⟩
            · exact q1 x hx
          · rcases List.mem_cons.1 hx with rfl | hx
            · exact hkk.2.1 hc
            · exact q2 (by rw [hc]; rfl) x hx
          · rw [List.map_cons, List.map_cons, q3, hkk.2.2]

/-- what holds of an entry in its place -/
structure RaOk (all : List Oper) (ws : List (Nat × Nat)) (pre : List RA) (a : RA) (post : List RA) : Prop where
  deps : ∀ j ∈ binding a.o, ∃ x ∈ pre, x.i = j
  fresh : ∀ x ∈ pre, x.i ≠ a.i
  looks : ∀ t ∈ tmpsL a.o.op.operands.toList, ∀ p ∈ ws, p.1 = t → Dom all a.o p.2 ∨ ∃ y ∈ post, y.i = p.2 ∧ Dom all y.o a.i
  guard : ∀ g, a.o.guard = some g → Dom all a.o g.1
  rd : a.k = 1 → (∀ x ∈ pre, x.k = 3 → Dom all a.o x.i) ∧ ckOk a.i a.ck post = true
  fl : a.k = 2 → ∀ x ∈ pre, x.k ≠ 3
  ch : a.k = 3 → ∀ x ∈ pre, x.k = 3 → Dom all a.o x.i

theorem laterOk_ok {i j : Nat} : ∀ {l : List RA}, laterOk i j l = true → ∃ y ∈ l, y.i = j ∧ tb y.m i = true
  | [], h => by cases h
  | y :: l, h => by
    unfold laterOk at h
    cases hb : Nat.beq y.i j with
    | true => rw [hb] at h; exact ⟨y, List.mem_cons_self, Nat.eq_of_beq_eq_true hb, h⟩
    | false =>
      rw [hb] at h
      obtain ⟨z, h1, h2⟩ := laterOk_ok (l := l) h
      exact ⟨z, List.mem_cons_of_mem _ h1, h2⟩

theorem chk2_ok {all : List Oper} {n : Nat} {ws : List (Nat × Nat)} : ∀ (rest pre : List RA) (D : Nat) (pc : Option Nat), (∀ a ∈ rest, RaOk1 all a) →
    (∀ i, tb D i = true ↔ ∃ x ∈ pre, x.i = i) → (pc = none → ∀ x ∈ pre, x.k ≠ 3) → (∀ p, pc = some p → ∃ o, all[p]? = some o ∧ ∀ x ∈ pre, x.k = 3 → x.i = p ∨ Dom all o x.i) →
    chk2 n ws rest D pc = true → (∀ p a q, rest = p ++ a :: q → RaOk all ws (pre ++ p) a q) ∧ ∀ i, i < n → ∃ x ∈ pre ++ rest, x.i = i
  | [], pre, D, pc, _, hD, _, _, e => by
    refine ⟨fun p a q h => (by cases p <;> cases h), fun i hi => ?_⟩
    have := List.all_eq_true.1 (show ((List.range n).all fun i => tb D i) = true from e) i (List.mem_range.2 hi)
    rw [List.append_nil]
    exact (hD i).1 this
  | a :: rest, pre, D, pc, h1, hD, hp0, hp1, e => by
    unfold chk2 at e
    rw [Bool.and_eq_true, Bool.and_eq_true, Bool.and_eq_true, Bool.and_eq_true] at e
    obtain ⟨⟨⟨⟨e1, e2⟩, e3⟩, e4⟩, e5⟩ := e
    obtain ⟨ho, hm, hk⟩ := h1 a List.mem_cons_self
    have hfresh : ∀ x ∈ pre, x.i ≠ a.i := by
      intro x hx hxi
      have := (hD a.i).2 ⟨x, hx, hxi⟩
      rw [this] at e1; cases e1
    have hdom : Nat → chainOk a.m pc = true → ∀ x ∈ pre, x.k = 3 → Dom all a.o x.i := by
      intro _ hc x hx hx3
      cases pc with
      | none => exact absurd hx3 (hp0 rfl x hx)
      | some p =>
        obtain ⟨o2, g1, g2⟩ := hp1 p rfl
        have hd := hm p hc
        rcases g2 x hx hx3 with rfl | g3
        · exact hd
        · intro S hS hb
          exact g3 S hS (hS p o2 (hd S hS hb) g1)
    have hself : RaOk all ws pre a rest := by
      unfold looksOk at e3
      rw [Bool.and_eq_true] at e3
      refine ⟨fun j hj => (hD j).1 (List.all_eq_true.1 e2 j hj), hfresh, fun t ht p hp hpt => ?_, fun g hg => ?_, fun hk1 => ?_, fun hk2 => ?_, fun hk3 => ?_⟩
      · have g1 := List.all_eq_true.1 e3.1 t ht
        have g2 := List.all_eq_true.1 g1 p hp
        have hb : Nat.beq p.1 t = true := by rw [hpt]; simp
        rw [hb, Bool.not_true, Bool.false_or, Bool.or_eq_true] at g2
        rcases g2 with g2 | g2
        · exact .inl (hm _ g2)
        · obtain ⟨y, y1, y2, y3⟩ := laterOk_ok g2
          exact .inr ⟨y, y1, y2, (h1 y (List.mem_cons_of_mem _ y1)).2.1 _ y3⟩
      · have g := e3.2
        rw [hg] at g
        exact hm _ g
      · unfold entryOk at e4
        rw [hk1] at e4
        have e4 : (chainOk a.m pc && ckOk a.i a.ck rest) = true := e4
        rw [Bool.and_eq_true] at e4
        exact ⟨hdom 0 e4.1, e4.2⟩
      · unfold entryOk at e4
        rw [hk2] at e4
        have e4 : pc.isNone = true := e4
        exact hp0 (by simpa using e4)
      · unfold entryOk at e4
        rw [hk3] at e4
        exact hdom 0 e4
    have hD' : ∀ i, tb (Nat.lor D (Nat.pow 2 a.i)) i = true ↔ ∃ x ∈ pre ++ [a], x.i = i := by
      intro i
      rw [tb_lor, tb_pow, Bool.or_eq_true, hD i]
      constructor
      · rintro (⟨x, h1, h2⟩ | h1)
        · exact ⟨x, List.mem_append_left _ h1, h2⟩
        · exact ⟨a, by simp, of_decide_eq_true h1⟩
      · rintro ⟨x, h1, h2⟩
        rcases List.mem_append.1 h1 with h1 | h1
        · exact .inl ⟨x, h1, h2⟩
        · rw [List.mem_singleton] at h1; subst h1; exact .inr (decide_eq_true h2)
    have hrest := chk2_ok rest (pre ++ [a]) _ (bif Nat.beq a.k 3 then some a.i else pc) (fun x hx => h1 x (List.mem_cons_of_mem _ hx)) hD' (fun hn x hx => by
        cases hb : Nat.beq a.k 3 with
        | true => rw [hb] at hn; cases hn
        | false =>
          rw [hb] at hn
          rcases List.mem_append.1 hx with hx | hx
          · exact hp0 hn x hx
          · rw [List.mem_singleton] at hx; subst hx
            intro h3; rw [h3] at hb; cases hb) (fun p hpc => by
        cases hb : Nat.beq a.k 3 with
        | true =>
          rw [hb] at hpc
          cases hpc
          have h3 : a.k = 3 := Nat.eq_of_beq_eq_true hb
          refine ⟨a.o, ho, fun x hx hx3 => ?_⟩
          rcases List.mem_append.1 hx with hx | hx
          · exact .inr (hself.ch h3 x hx hx3)
          · rw [List.mem_singleton] at hx; subst hx; exact .inl rfl
        | false =>
          rw [hb] at hpc
          obtain ⟨o2, g1, g2⟩ := hp1 p hpc
          refine ⟨o2, g1, fun x hx hx3 => ?_⟩
          rcases List.mem_append.1 hx with hx | hx
          · exact g2 x hx hx3
          · rw [List.mem_singleton] at hx; subst hx
            rw [hx3] at hb; cases hb) e5
    refine ⟨fun p x q hpq => ?_, fun i hi => ?_⟩
    · cases p with
      | nil =>
        cases hpq
        rw [List.append_nil]; exact hself
      | cons y p =>
        cases hpq
        have := hrest.1 p x q rfl
        rw [List.append_assoc] at this
        exact this
    · obtain ⟨x, h1, h2⟩ := hrest.2 i hi
      exact ⟨x, by rw [List.append_assoc] at h1; exact h1, h2⟩

theorem writers_mem : ∀ (l : List Oper) (i j : Nat) (o : Oper) (d : Nat), l[j]? = some o → o.dst = some d → (d, i + j) ∈ writers l i
  | [], _, _, _, _, h, _ => by simp at h
  | x :: l, i, 0, o, d, h, hd => by
    cases h
    unfold writers
    rw [hd]
    exact List.mem_cons_self
  | x :: l, i, j + 1, o, d, h, hd => by
    have := writers_mem l (i + 1) j o d (by rw [List.getElem?_cons_succ] at h; exact h) hd
    unfold writers
    have e : i + 1 + j = i + (j + 1) := by omega
    rw [e] at this
    cases x.dst with
    | none => exact this
    | some d2 => exact List.mem_cons_of_mem _ this

theorem distinct_ok : ∀ (l : List (Nat × Nat)) (D : Nat), distinct l D = true → (∀ p ∈ l, tb D p.1 = false) ∧ l.Pairwise fun p q => p.1 ≠ q.1
  | [], _, _ => ⟨fun p h => (by cases h), .nil⟩
  | p :: l, D, e => by
    unfold distinct at e
    rw [Bool.and_eq_true] at e
    obtain ⟨h1, h2⟩ := distinct_ok l _ e.2
    refine ⟨fun q hq => ?_, .cons (fun q hq => ?_) h2⟩
    · rcases List.mem_cons.1 hq with rfl | hq
      · simpa using e.1
      · have := h1 q hq
        rw [tb_lor, Bool.or_eq_false_iff] at this
        exact this.1
    · have := h1 q hq
      rw [tb_lor, Bool.or_eq_false_iff, tb_pow] at this
      exact of_decide_eq_false this.2

theorem writers_inv : ∀ (l : List Oper) (i : Nat) (p : Nat × Nat), p ∈ writers l i → ∃ j o, p.2 = i + j ∧ l[j]? = some o ∧ o.dst = some p.1
  | [], _, p, h => by cases h
  | x :: l, i, p, h => by
    unfold writers at h
    have hrec : p ∈ writers l (i + 1) → ∃ j o, p.2 = i + j ∧ (x :: l)[j]? = some o ∧ o.dst = some p.1 := fun h => by
      obtain ⟨j, o, h1, h2, h3⟩ := writers_inv l (i + 1) p h
      exact ⟨j + 1, o, by omega, by rw [List.getElem?_cons_succ]; exact h2, h3⟩
    cases hd : x.dst with
    | none => rw [hd] at h; exact hrec h
    | some d =>
      rw [hd] at h
      rcases List.mem_cons.1 h with rfl | h
      · exact ⟨0, x, rfl, rfl, hd⟩
      · exact hrec h

theorem pw_mem {α : Type} {R : α → α → Prop} (hs : ∀ {a b : α}, R a b → R b a) : ∀ {l : List α}, l.Pairwise R → ∀ {x y : α}, x ∈ l → y ∈ l → x ≠ y → R x y
  | _, .cons h1 h2, x, y, hx, hy, hne => by
    rcases List.mem_cons.1 hx with ex | hx
    · rcases List.mem_cons.1 hy with ey | hy
      · exact absurd (ex.trans ey.symm) hne
      · exact ex ▸ h1 y hy
    · rcases List.mem_cons.1 hy with ey | hy
      · exact ey ▸ hs (h1 x hx)
      · exact pw_mem hs h2 hx hy hne

/-- two operations write no temporary both -/
theorem dst_inj {all : List Oper} (e : distinct (writers all 0) 0 = true) {i j : Nat} {o o2 : Oper} {d : Nat} (h1 : all[i]? = some o) (h2 : all[j]? = some o2) (hd : o.dst = some d) (hd2 : o2.dst = some d) : i = j := by
  have hp := (distinct_ok _ _ e).2
  have m1 := writers_mem all 0 i o d h1 hd
  have m2 := writers_mem all 0 j o2 d h2 hd2
  rw [Nat.zero_add] at m1 m2
  by_cases hij : i = j
  · exact hij
  · have hne : (d, i) ≠ (d, j) := fun e => hij (by injection e)
    have hq := pw_mem (R := fun p q : Nat × Nat => p.1 ≠ q.1) (fun h => h.symm) hp (x := (d, i)) (y := (d, j)) m1 m2 hne
    exact absurd rfl hq

structure HintOk (all : List Oper) (hs : List HAct) (ras : List RA) : Prop where
  made : mkRA all hs [] false = some ras
  one : ∀ a ∈ ras, RaOk1 all a
  ok : ∀ p a q, ras = p ++ a :: q → RaOk all (writers all 0) p a q
  full : ∀ i, i < all.length → ∃ x ∈ ras, x.i = i
  inj : ∀ {i j : Nat} {o o2 : Oper} {d : Nat}, all[i]? = some o → all[j]? = some o2 → o.dst = some d → o2.dst = some d → i = j

theorem chkRegion_ok {hs : List HAct} {all : List Oper} (e : chkRegion hs all = true) : ∃ ras, HintOk all hs ras := by
  unfold chkRegion at e
  cases hm : mkRA all hs [] false with
  | none => rw [hm] at e; cases e
  | some ras =>
    rw [hm] at e
    dsimp only at e
    rw [Bool.and_eq_true] at e
    obtain ⟨h1, h2, h3⟩ := mkRA_ok hs [] false ras (fun p hp => by cases hp) hm
    obtain ⟨g1, g2⟩ := chk2_ok (all := all) ras [] 0 none h1 (fun i => by rw [tb_zero]; simp) (fun _ x hx => by cases hx) (fun p hp => by cases hp) e.2
    exact ⟨ras, hm, h1, fun p a q h => g1 p a q h, g2, fun a b c d => dst_inj e.1 a b c d⟩
end LA

namespace LA
open Go hiding Loc

theorem and2 {a b : Bool} (h : Bool.and a b = true) : a = true ∧ b = true := (Bool.and_eq_true a b).mp h
theorem beqB_ok {a b : Bool} (h : LA.beq a b = true) : a = b := by cases a <;> cases b <;> first | rfl | cases h
theorem nbeq_ok {a b : Nat} (h : Nat.beq a b = true) : a = b := Nat.eq_of_beq_eq_true h

noncomputable def aeqs (x y : List AV) : Bool := aeq (.agg x) (.agg y)

mutual
theorem aeq_ok : ∀ (x y : AV), aeq x y = true → x = y
  | .bool a, y, e => by
    cases y with
    | bool b => rw [beqB_ok (show LA.beq a b = true from e)]
    | _ => cases e
  | .int k a, y, e => by
    cases y with
    | int j b =>
      obtain ⟨h1, h2⟩ := and2 (show Bool.and (kEq k j) (ieq a b) = true from e)
      rw [(kEq_iff k j).1 h1, (ieq_iff a b).1 h2]
    | _ => cases e
  | .str a, y, e => by
    cases y with
    | str b => rw [(seq_iff a b).1 e]
    | _ => cases e
  | .nilp, y, e => by cases y <;> first | rfl | cases e
  | .ptr b o, y, e => by
    cases y with
    | ptr c p =>
      obtain ⟨h1, h2⟩ := and2 (show Bool.and (Nat.beq b c) (Nat.beq o p) = true from e)
      rw [nbeq_ok h1, nbeq_ok h2]
    | _ => cases e
  | .nils, y, e => by cases y <;> first | rfl | cases e
  | .slice b o l c z x, y, e => by
    cases y with
    | slice b' o' l' c' z' x' =>
      obtain ⟨h1, h⟩ := and2 (show Bool.and (Nat.beq b b') (Bool.and (Nat.beq o o') (Bool.and (Nat.beq l l') (Bool.and (Nat.beq c c') (Bool.and (Nat.beq z z') (LA.beq x x'))))) = true from e)
      obtain ⟨h2, h⟩ := and2 h
      obtain ⟨h3, h⟩ := and2 h
      obtain ⟨h4, h⟩ := and2 h
      obtain ⟨h5, h⟩ := and2 h
      rw [nbeq_ok h1, nbeq_ok h2, nbeq_ok h3, nbeq_ok h4, nbeq_ok h5, beqB_ok h]
    | _ => cases e
  | .nilm, y, e => by cases y <;> first | rfl | cases e
  | .map b, y, e => by
    cases y with
    | map c => rw [nbeq_ok (show Nat.beq b c = true from e)]
    | _ => cases e
  | .nilf, y, e => by cases y <;> first | rfl | cases e
  | .func f a b, y, e => by
    cases y with
    | func g u v =>
      obtain ⟨h1, h⟩ := and2 (show Bool.and (Nat.beq f g) (Bool.and (aeqs a u) (aeqs b v)) = true from e)
      obtain ⟨h2, h3⟩ := and2 h
      rw [nbeq_ok h1, aeqs_ok a u h2, aeqs_ok b v h3]
    | _ => cases e
  | .yield l, y, e => by
    cases y with
    | yield m => rw [nbeq_ok (show Nat.beq l m = true from e)]
    | _ => cases e
  | .nili, y, e => by cases y <;> first | rfl | cases e
  | .iface t v, y, e => by
    cases y with
    | iface u w =>
      obtain ⟨h1, h2⟩ := and2 (show Bool.and (Nat.beq t u) (aeq v w) = true from e)
      rw [nbeq_ok h1, aeq_ok v w h2]
    | _ => cases e
  | .agg a, y, e => by
    cases y with
    | agg b => rw [aeqs_ok a b e]
    | _ => cases e
  | .tup a, y, e => by
    cases y with
    | tup b => rw [aeqs_ok a b (show aeqs a b = true from e)]
    | _ => cases e
  | .glob g, y, e => by
    cases y with
    | glob k => rw [nbeq_ok (show Nat.beq g k = true from e)]
    | _ => cases e
  | .junk, y, e => by cases y <;> first | rfl | cases e
  | .ab k lo hi m r, y, e => by
    cases y with
    | ab k' lo' hi' m' r' =>
      obtain ⟨h1, h⟩ := and2 (show Bool.and (kEq k k') (Bool.and (ieq lo lo') (Bool.and (ieq hi hi') (Bool.and (Nat.beq m m') (Nat.beq r r')))) = true from e)
      obtain ⟨h2, h⟩ := and2 h
      obtain ⟨h3, h⟩ := and2 h
      obtain ⟨h4, h5⟩ := and2 h
      rw [(kEq_iff k k').1 h1, (ieq_iff lo lo').1 h2, (ieq_iff hi hi').1 h3, nbeq_ok h4, nbeq_ok h5]
    | _ => cases e
theorem aeqs_ok : ∀ (x y : List AV), aeqs x y = true → x = y
  | [], y, e => by
    cases y with
    | nil => rfl
    | cons _ _ => cases e
  | a :: x, y, e => by
    cases y with
    | nil => cases e
    | cons b y =>
      obtain ⟨h1, h2⟩ := and2 (show Bool.and (aeq a b) (aeqs x y) = true from e)
      rw [aeq_ok a b h1, aeqs_ok x y h2]
end

/-! ## what A's run of a hint tells -/
/-- an operation's end, with the call that it makes -/
noncomputable def effR (call round : Nat → List AV → AH → RV) : Option Nx → Option (AV × AH)
  | none => none
  | some (.val v h) => some (v, h)
  | some (.call f args h) => match call f args h with
    | .ok v h => some (v, h)
    | .fail => none
  | some (.round l args h) => match round l args h with
    | .ok v h => some (v, h)
    | .fail => none

theorem onNx_eq (call round : Nat → List AV → AH → RV) (ts : T AV) (d : Option Nat) (K : T AV → AH → Res) (r : Option Nx) : onNx call round ts d K r = match effR call round r with
    | some p => K (put ts d p.1) p.2
    | none => .fail := by
  cases r with
  | none => rfl
  | some nx =>
    cases nx with
    | val v h => rfl
    | call f args h =>
      show afterV ts d K (call f args h) = _
      unfold effR
      dsimp only
      cases call f args h <;> rfl
    | round l args h =>
      show afterV ts d K (round l args h) = _
      unfold effR
      dsimp only
      cases round l args h <;> rfl

structure TE where
  a : RA
  g : Bool
  v : AV
  ts : T AV
  h0 : AH
  h1 : AH

def Asked (E : Env) (op : Op) (ts : T AV) (v : AV) : Nat → List TE → Prop
  | 0, _ => True
  | _ + 1, [] => True
  | c + 1, e :: l => (2 ≤ e.a.k ∧ e.g = true → (∃ h2, aop op E ts e.h1 = some (.val v h2)) ∧ Asked E op ts v c l) ∧ (¬ (2 ≤ e.a.k ∧ e.g = true) → Asked E op ts v (c + 1) l)

def Tr (E : Env) (call round : Nat → List AV → AH → RV) (all : List Oper) : List TE → T AV → AH → T AV → AH → Prop
  | [], ts, h, ts', h' => ts = ts' ∧ h = h'
  | e :: l, ts, h, ts', h' => e.ts = ts ∧ e.h0 = h ∧ gOk all ts e.a.o.guard = some e.g ∧ (e.g = false → e.v = LA.undef ∧ e.h1 = h) ∧
      (e.g = true → (e.a.k < 2 → e.h1 = h ∧ (∃ hq, aop e.a.o.op E ts h = some (.val e.v hq) ∧ hq.next = h.next) ∧ Asked E e.a.o.op ts e.v e.a.ck l) ∧ (2 ≤ e.a.k → effR call round (aop e.a.o.op E ts h) = some (e.v, e.h1))) ∧
      Tr E call round all l (put ts e.a.o.dst e.v) e.h1 ts' h'

theorem again_ok {E : Env} {h : AH} : ∀ {l l' : List Pend}, again E h l = some l' → ∀ p ∈ l, p.k = 0 ∨ ∃ k, p.k = k + 1 ∧ again1 E p h = true ∧ ⟨p.op, p.ts, p.v, k⟩ ∈ l'
  | [], _, _, p, hp => by cases hp
  | q :: l, l', e, p, hp => by
    obtain ⟨qo, qt, qv, qk⟩ := q
    cases qk with
    | zero =>
      have e : again E h l = some l' := e
      rcases List.mem_cons.1 hp with rfl | hp
      · exact .inl rfl
      · exact again_ok e p hp
    | succ k =>
      obtain ⟨h1, h2⟩ := bo_some (show bo (again1 E ⟨qo, qt, qv, k + 1⟩ h) (ob (again E h l) fun l => some (⟨qo, qt, qv, k⟩ :: l)) = some l' from e)
      obtain ⟨l2, h3, h4⟩ := ob_some h2
      cases h4
      rcases List.mem_cons.1 hp with rfl | hp
      · exact .inr ⟨k, rfl, h1, List.mem_cons_self⟩
      · rcases again_ok h3 p hp with g | ⟨k, g1, g2, g3⟩
        · exact .inl g
        · exact .inr ⟨k, g1, g2, List.mem_cons_of_mem _ g3⟩

theorem again1_ok {E : Env} {p : Pend} {h : AH} (e : again1 E p h = true) : ∃ h2, aop p.op E p.ts h = some (.val p.v h2) := by
  unfold again1 at e
  cases ha : aop p.op E p.ts h with
  | none => rw [ha] at e; cases e
  | some nx =>
    rw [ha] at e
    cases nx with
    | val v h2 =>
      have e : aeq p.v v = true := e
      rw [aeq_ok _ _ e]
      exact ⟨h2, rfl⟩
    | _ => cases e

theorem drawF_tr {E : Env} {call round : Nat → List AV → AH → RV} {all : List Oper} : ∀ (hs : List HAct) (tab : List (Nat × Nat)) (c : Bool) (ras : List RA) (ps : List Pend) (ts : T AV) (h : AH) (ex : Ex) (ts' : T AV) (h' : AH),
    mkRA all hs tab c = some ras → drawF E call round all hs ps ts h = .ok ex ts' h' → ex = .normal ∧ ∃ tes : List TE, tes.map (·.a) = ras ∧ Tr E call round all tes ts h ts' h' ∧ ∀ p ∈ ps, Asked E p.op p.ts p.v p.k tes
  | [], tab, c, ras, ps, ts, h, ex, ts', h', em, e => by
    cases em; cases e
    refine ⟨rfl, [], rfl, ⟨rfl, rfl⟩, fun p _ => ?_⟩
    cases p.k <;> exact trivial
  | a :: rest, tab, c, ras, ps, ts, h, ex, ts', h', em, e => by
    unfold mkRA at em
    cases ho : all[a.i]? with
    | none => rw [ho] at em; cases em
    | some o =>
      rw [ho] at em
      dsimp only at em
      cases hk : kindOf o a.eff c with
      | none => rw [hk] at em; cases em
      | some k =>
        rw [hk] at em
        dsimp only at em
        cases hl : mkRA all rest ((a.i, maskOf tab (binding o)) :: tab) (c || Nat.beq k 3) with
        | none => rw [hl] at em; cases em
        | some l =>
          rw [hl] at em
          cases em
          have hkk : (a.eff = true → 2 ≤ k) ∧ (a.eff = false → k < 2) := by
            unfold kindOf at hk
            constructor
            · intro he; rw [he] at hk
              cases hf : (floatOp o.op && !c) <;> rw [hf] at hk <;> cases hk <;> omega
            · intro he; rw [he] at hk
              cases hf : pureOp o.op with
              | true => rw [hf] at hk; cases hk; omega
              | false =>
                rw [hf] at hk
                cases hr : readOp o.op <;> rw [hr] at hk <;> cases hk
                omega
          have e : (Option.rec .fail (fun o => drOp E call round all a (drawF E call round all rest) ps ts h o) (lget all a.i) : Res) = .ok ex ts' h' := e
          rw [lget_eq, ho] at e
          have e : drOp E call round all a (drawF E call round all rest) ps ts h o = .ok ex ts' h' := e
          unfold drOp at e
          cases hg : gOk all ts o.guard with
          | none => rw [hg] at e; cases e
          | some g =>
            rw [hg] at e
            cases g with
            | false =>
              have e : drawF E call round all rest ps (put ts o.dst LA.undef) h = .ok ex ts' h' := e
              obtain ⟨h1, tes, h2, h3, h4⟩ := drawF_tr rest _ _ l ps _ h ex ts' h' hl e
              refine ⟨h1, ⟨⟨a.i, o, maskOf tab (binding o), k, a.ck⟩, false, LA.undef, ts, h, h⟩ :: tes, by rw [List.map_cons, h2], ⟨rfl, rfl, hg, fun _ => ⟨rfl, rfl⟩, fun q => (by cases q), h3⟩, fun p hp => ?_⟩
              have := h4 p hp
              cases hpk : p.k with
              | zero => exact trivial
              | succ c =>
                rw [hpk] at this
                exact ⟨fun q => (by cases q.2), fun _ => this⟩
            | true =>
              cases he : a.eff with
              | false =>
                rw [he] at e
                have e : drQuiet (drawF E call round all rest) o a.ck ps ts h (aop o.op E ts h) = .ok ex ts' h' := e
                unfold drQuiet at e
                cases ha : aop o.op E ts h with
                | none => rw [ha] at e; cases e
                | some nx =>
                  rw [ha] at e
                  cases nx with
                  | val v hq =>
                    have e : (Bool.rec .fail (drawF E call round all rest (⟨o.op, ts, v, a.ck⟩ :: ps) (put ts o.dst v) h) (Nat.beq hq.next h.next) : Res) = .ok ex ts' h' := e
                    cases hn : Nat.beq hq.next h.next with
                    | false => rw [hn] at e; cases e
                    | true =>
                      rw [hn] at e
                      have e : drawF E call round all rest (⟨o.op, ts, v, a.ck⟩ :: ps) (put ts o.dst v) h = .ok ex ts' h' := e
                      obtain ⟨h1, tes, h2, h3, h4⟩ := drawF_tr rest _ _ l _ _ h ex ts' h' hl e
                      have hk2 := hkk.2 he
                      refine ⟨h1, ⟨⟨a.i, o, maskOf tab (binding o), k, a.ck⟩, true, v, ts, h, h⟩ :: tes, by rw [List.map_cons, h2], ⟨rfl, rfl, hg, fun q => (by cases q), fun _ => ⟨fun _ => ⟨rfl, ⟨hq, ha, nbeq_ok hn⟩, h4 _ List.mem_cons_self⟩, fun q => absurd q (Nat.not_le.2 hk2)⟩, h3⟩, fun p hp => ?_⟩
                      have := h4 p (List.mem_cons_of_mem _ hp)
                      cases hpk : p.k with
                      | zero => exact trivial
                      | succ c =>
                        rw [hpk] at this
                        exact ⟨fun q => absurd q.1 (Nat.not_le.2 hk2), fun _ => this⟩
                  | _ => cases e
              | true =>
                rw [he] at e
                have e : onNx call round ts o.dst (drEff E (drawF E call round all rest) ps) (aop o.op E ts h) = .ok ex ts' h' := e
                rw [onNx_eq] at e
                cases hr : effR call round (aop o.op E ts h) with
                | none => rw [hr] at e; cases e
                | some p =>
                  obtain ⟨v, h1⟩ := p
                  rw [hr] at e
                  have e : drEff E (drawF E call round all rest) ps (put ts o.dst v) h1 = .ok ex ts' h' := e
                  unfold drEff at e
                  cases hag : again E h1 ps with
                  | none => rw [hag] at e; cases e
                  | some ps' =>
                    rw [hag] at e
                    have e : drawF E call round all rest ps' (put ts o.dst v) h1 = .ok ex ts' h' := e
                    obtain ⟨g1, tes, g2, g3, g4⟩ := drawF_tr rest _ _ l ps' _ h1 ex ts' h' hl e
                    have hk2 := hkk.1 he
                    refine ⟨g1, ⟨⟨a.i, o, maskOf tab (binding o), k, a.ck⟩, true, v, ts, h, h1⟩ :: tes, by rw [List.map_cons, g2], ⟨rfl, rfl, hg, fun q => (by cases q), fun _ => ⟨fun q => absurd q (Nat.not_lt.2 hk2), fun _ => hr⟩, g3⟩, fun p hp => ?_⟩
                    rcases again_ok hag p hp with q | ⟨c, q1, q2, q3⟩
                    · rw [q]; exact trivial
                    · rw [q1]
                      have := g4 _ q3
                      exact ⟨fun _ => ⟨again1_ok q2, this⟩, fun q => absurd ⟨hk2, rfl⟩ q⟩

/-! ## memory at a point of another order -/
noncomputable def hOf (S : Nat → Bool) : List TE → AH → AH
  | [], h => h
  | e :: l, h => hOf S l (bif Nat.beq e.a.k 2 || (Nat.beq e.a.k 3 && S e.a.i) then e.h1 else h)

theorem hOf_append (S : Nat → Bool) : ∀ (p q : List TE) (h : AH), hOf S (p ++ q) h = hOf S q (hOf S p h)
  | [], _, _ => rfl
  | _ :: p, q, _ => hOf_append S p q _

theorem hOf_rest {S : Nat → Bool} : ∀ (l : List TE) (h : AH), (∀ e ∈ l, e.a.k ≠ 2) → (∀ e ∈ l, e.a.k = 3 → S e.a.i = false) → hOf S l h = h
  | [], _, _, _ => rfl
  | e :: l, h, h2, h3 => by
    unfold hOf
    have a : (Nat.beq e.a.k 2 || (Nat.beq e.a.k 3 && S e.a.i)) = false := by
      have h2' : Nat.beq e.a.k 2 = false := by
        cases hb : Nat.beq e.a.k 2 with
        | false => rfl
        | true => exact absurd (nbeq_ok hb) (h2 e List.mem_cons_self)
      rw [h2', Bool.false_or]
      cases hb : Nat.beq e.a.k 3 with
      | false => rfl
      | true => rw [h3 e List.mem_cons_self (nbeq_ok hb)]; rfl
    rw [a]
    exact hOf_rest l h (fun e he => h2 e (List.mem_cons_of_mem _ he)) (fun e he => h3 e (List.mem_cons_of_mem _ he))

theorem hOf_congr {S S' : Nat → Bool} : ∀ (l : List TE) (h : AH), (∀ e ∈ l, e.a.k = 3 → S e.a.i = S' e.a.i) → hOf S l h = hOf S' l h
  | [], _, _ => rfl
  | e :: l, h, hs => by
    unfold hOf
    have : (Nat.beq e.a.k 3 && S e.a.i) = (Nat.beq e.a.k 3 && S' e.a.i) := by
      cases hb : Nat.beq e.a.k 3 with
      | false => rfl
      | true => rw [hs e List.mem_cons_self (nbeq_ok hb)]
    rw [this]
    exact hOf_congr l _ fun e he => hs e (List.mem_cons_of_mem _ he)

section
variable {E : Env} {call round : Nat → List AV → AH → RV} {all : List Oper}

theorem Tr.h1_quiet {e : TE} {l : List TE} {ts : T AV} {h : AH} {ts' : T AV} {h' : AH} (t : Tr E call round all (e :: l) ts h ts' h') (hk : e.a.k < 2) : e.h1 = h := by
  obtain ⟨_, _, _, h4, h5, _⟩ := t
  cases hg : e.g with
  | false => exact (h4 hg).2
  | true => exact ((h5 hg).1 hk).1

/-- memory behind a beginning all of whose effects are done -/
theorem hOf_all {S : Nat → Bool} : ∀ (p q : List TE) (ts : T AV) (h : AH) (ts' : T AV) (h' : AH), Tr E call round all (p ++ q) ts h ts' h' → (∀ x ∈ p, x.a.k = 3 → S x.a.i = true) → (∀ x ∈ p, x.a.k = 0 ∨ x.a.k = 1 ∨ x.a.k = 2 ∨ x.a.k = 3) →
    ∃ ts2, Tr E call round all q ts2 (hOf S p h) ts' h'
  | [], q, ts, h, ts', h', t, _, _ => ⟨ts, t⟩
  | e :: p, q, ts, h, ts', h', t, hs, hk => by
    have t0 : Tr E call round all (e :: (p ++ q)) ts h ts' h' := t
    have hq := Tr.h1_quiet t0
    obtain ⟨_, _, _, _, _, t2⟩ := t0
    have e1 : (bif Nat.beq e.a.k 2 || (Nat.beq e.a.k 3 && S e.a.i) then e.h1 else h) = e.h1 := by
      rcases hk e List.mem_cons_self with k | k | k | k
      · rw [k]; exact (hq (by omega)).symm
      · rw [k]; exact (hq (by omega)).symm
      · rw [k]; rfl
      · rw [k, hs e List.mem_cons_self k]; rfl
    unfold hOf
    rw [e1]
    exact hOf_all p q _ _ ts' h' t2 (fun x hx => hs x (List.mem_cons_of_mem _ hx)) (fun x hx => hk x (List.mem_cons_of_mem _ hx))

/-- the temporaries behind a beginning -/
theorem Tr.ts_of : ∀ (p q : List TE) (ts : T AV) (h : AH) (ts' : T AV) (h' : AH), Tr E call round all (p ++ q) ts h ts' h' → (p ++ q).Pairwise (fun x y => ∀ d, x.a.o.dst = some d → y.a.o.dst ≠ some d) →
    ∃ ts2 h2, Tr E call round all q ts2 h2 ts' h' ∧ (∀ e ∈ p, ∀ d, e.a.o.dst = some d → T.get ts2 d = some e.v) ∧ (∀ t, (∀ e ∈ p, e.a.o.dst ≠ some t) → T.get ts2 t = T.get ts t)
  | [], q, ts, h, ts', h', t, _ => ⟨ts, h, t, fun e he => (by cases he), fun _ _ => rfl⟩
  | e :: p, q, ts, h, ts', h', t, hp => by
    obtain ⟨_, _, _, _, _, t2⟩ := (show Tr E call round all (e :: (p ++ q)) ts h ts' h' from t)
    have hp : (e :: (p ++ q)).Pairwise (fun x y => ∀ d, x.a.o.dst = some d → y.a.o.dst ≠ some d) := hp
    cases hp with
    | cons hp1 hp2 =>
      obtain ⟨ts2, h2, g1, g2, g3⟩ := Tr.ts_of p q _ _ ts' h' t2 hp2
      refine ⟨ts2, h2, g1, fun x hx d hd => ?_, fun u hu => ?_⟩
      · rcases List.mem_cons.1 hx with rfl | hx
        · have : T.get ts2 d = T.get (put ts x.a.o.dst x.v) d := g3 d fun y hy => hp1 y (List.mem_append_left _ hy) d hd
          rw [this, hd]
          exact T.get_set_same _ _ _
        · exact g2 x hx d hd
      · rw [g3 u fun y hy => hu y (List.mem_cons_of_mem _ hy)]
        have := hu e List.mem_cons_self
        cases hd : e.a.o.dst with
        | none => rfl
        | some d =>
          rw [hd] at this
          exact T.get_set_ne _ _ fun h => this (by rw [h])
end
end LA

namespace LA
open Go hiding Loc

theorem pw_of {α : Type} {R : α → α → Prop} : ∀ (l : List α), (∀ p a q, l = p ++ a :: q → ∀ x ∈ p, R x a) → l.Pairwise R
  | [], _ => .nil
  | x :: l, h => .cons (fun a ha => by
      obtain ⟨p, q, e⟩ := List.append_of_mem ha
      exact h (x :: p) a q (by rw [e]; rfl) x List.mem_cons_self) (pw_of l fun p a q e y hy => h (x :: p) a q (by rw [e]; rfl) y (List.mem_cons_of_mem _ hy))

theorem map_split {l : List TE} {p q : List TE} {e : TE} (h : l = p ++ e :: q) : l.map (·.a) = p.map (·.a) ++ e.a :: q.map (·.a) := by rw [h]; simp

theorem mem_tmpsL {t : Nat} : ∀ {l : List Operand} {x : Operand}, x ∈ l → t ∈ tmpsOf x → t ∈ tmpsL l
  | y :: l, x, hx, ht => by
    rcases List.mem_cons.1 hx with rfl | hx
    · cases x with
      | tmp u => rw [tmpsOf, List.mem_singleton] at ht; subst ht; exact List.mem_cons_self
      | _ => cases ht
    · have := mem_tmpsL hx ht
      cases y with
      | tmp u => exact List.mem_cons_of_mem _ this
      | _ => exact this

/-- the run of a hint -/
structure Run (E : Env) (call round : Nat → List AV → AH → RV) (all : List Oper) (tes : List TE) (ts0 : T AV) (h0 : AH) (ts' : T AV) (h' : AH) : Prop where
  one : ∀ e ∈ tes, RaOk1 all e.a
  ok : ∀ p e q, tes = p ++ e :: q → RaOk all (writers all 0) (p.map (·.a)) e.a (q.map (·.a))
  full : ∀ i, i < all.length → ∃ e ∈ tes, e.a.i = i
  inj : ∀ {i j : Nat} {o o2 : Oper} {d : Nat}, all[i]? = some o → all[j]? = some o2 → o.dst = some d → o2.dst = some d → i = j
  tr : Tr E call round all tes ts0 h0 ts' h'

section
variable {E : Env} {call round : Nat → List AV → AH → RV} {all : List Oper} {tes : List TE} {ts0 : T AV} {h0 : AH} {ts' : T AV} {h' : AH}

theorem run_of {hs : List HAct} (hc : chkRegion hs all = true) {ex : Ex} (e : drawF E call round all hs [] ts0 h0 = .ok ex ts' h') : ex = .normal ∧ ∃ tes, Run E call round all tes ts0 h0 ts' h' := by
  obtain ⟨ras, k⟩ := chkRegion_ok hc
  obtain ⟨h1, tes, h2, h3, _⟩ := drawF_tr hs [] false ras [] ts0 h0 ex ts' h' k.made e
  refine ⟨h1, tes, fun e he => k.one _ (by rw [← h2]; exact List.mem_map_of_mem he), fun p e q hs => ?_, fun i hi => ?_, k.inj, h3⟩
  · have := map_split hs
    rw [h2] at this
    exact k.ok _ _ _ this
  · obtain ⟨x, g1, g2⟩ := k.full i hi
    rw [← h2, List.mem_map] at g1
    obtain ⟨e, g3, g4⟩ := g1
    exact ⟨e, g3, by rw [g4]; exact g2⟩


theorem Run.idx (r : Run E call round all tes ts0 h0 ts' h') : tes.Pairwise fun x y => x.a.i ≠ y.a.i :=
  pw_of tes fun p a q e x hx => (r.ok p a q e).fresh x.a (List.mem_map_of_mem hx)
theorem Run.uniq (r : Run E call round all tes ts0 h0 ts' h') {x y : TE} (hx : x ∈ tes) (hy : y ∈ tes) (e : x.a.i = y.a.i) : x = y := by
  by_cases hxy : x = y
  · exact hxy
  · exact absurd e (pw_mem (R := fun x y : TE => x.a.i ≠ y.a.i) (fun h => h.symm) r.idx hx hy hxy)
theorem Run.dst (r : Run E call round all tes ts0 h0 ts' h') : tes.Pairwise fun x y => ∀ d, x.a.o.dst = some d → y.a.o.dst ≠ some d := by
  refine pw_of tes fun p a q e x hx d hd hd2 => ?_
  have hxm : x ∈ tes := by rw [e]; exact List.mem_append_left _ hx
  have ham : a ∈ tes := by rw [e]; simp
  exact (r.ok p a q e).fresh x.a (List.mem_map_of_mem hx) (r.inj (r.one x hxm).1 (r.one a ham).1 hd hd2)
theorem Run.kind (r : Run E call round all tes ts0 h0 ts' h') {e : TE} (he : e ∈ tes) : e.a.k = 0 ∨ e.a.k = 1 ∨ e.a.k = 2 ∨ e.a.k = 3 := by
  rcases (r.one e he).2.2 with k | k | k | k
  · exact .inl k.1
  · exact .inr (.inl k.1)
  · exact .inr (.inr (.inl k.1))
  · exact .inr (.inr (.inr k))

/-- those that stand ahead -/
def Spre (p : List TE) : Nat → Bool := fun i => p.any fun x => Nat.beq x.a.i i
theorem Spre_iff {p : List TE} {i : Nat} : Spre p i = true ↔ ∃ x ∈ p, x.a.i = i := by
  unfold Spre
  rw [List.any_eq_true]
  constructor
  · rintro ⟨x, h1, h2⟩; exact ⟨x, h1, nbeq_ok h2⟩
  · rintro ⟨x, h1, h2⟩; exact ⟨x, h1, by rw [h2]; simp⟩

theorem Run.pre_closed (r : Run E call round all tes ts0 h0 ts' h') {p q : List TE} (hs : tes = p ++ q) : Closed all (Spre p) := by
  intro k o hk ho j hj
  obtain ⟨x, h1, h2⟩ := Spre_iff.1 hk
  obtain ⟨p1, p2, e⟩ := List.append_of_mem h1
  have hx : x ∈ tes := by rw [hs]; exact List.mem_append_left _ h1
  have ho2 : x.a.o = o := by
    have := (r.one x hx).1
    rw [h2, ho] at this
    exact (Option.some.inj this).symm
  obtain ⟨y, g1, g2⟩ := (r.ok p1 x (p2 ++ q) (by rw [hs, e]; simp)).deps j (by rw [ho2]; exact hj)
  rw [List.mem_map] at g1
  obtain ⟨z, g3, g4⟩ := g1
  exact Spre_iff.2 ⟨z, by rw [e]; exact List.mem_append_left _ g3, by rw [g4]; exact g2⟩

theorem Run.pre_deps (r : Run E call round all tes ts0 h0 ts' h') {p q : List TE} {e : TE} (hs : tes = p ++ e :: q) : ∀ j ∈ binding e.a.o, Spre p j = true := by
  intro j hj
  obtain ⟨y, g1, g2⟩ := (r.ok p e q hs).deps j hj
  rw [List.mem_map] at g1
  obtain ⟨z, g3, g4⟩ := g1
  exact Spre_iff.2 ⟨z, g3, by rw [g4]; exact g2⟩

def TsOf (tes : List TE) (S : Nat → Bool) (ts0 tsL : T AV) : Prop :=
  (∀ e ∈ tes, S e.a.i = true → ∀ d, e.a.o.dst = some d → T.get tsL d = some e.v) ∧ ∀ t, (∀ e ∈ tes, S e.a.i = true → e.a.o.dst ≠ some t) → T.get tsL t = T.get ts0 t

/-- a temporary whose writers bind the operation is as it was in the hint's run -/
theorem Run.agree (r : Run E call round all tes ts0 h0 ts' h') {p q : List TE} {e : TE} (hs : tes = p ++ e :: q) {S : Nat → Bool} (hS : Closed all S) (hd : ∀ j ∈ binding e.a.o, S j = true) {tsL : T AV} (ht : TsOf tes S ts0 tsL) (hn : S e.a.i = false) {t : Nat}
    (hw : ∀ (j : Nat) (o : Oper), all[j]? = some o → o.dst = some t → Dom all e.a.o j ∨ ∃ y ∈ q, y.a.i = j ∧ Dom all y.a.o e.a.i) : T.get tsL t = T.get e.ts t := by
  obtain ⟨ts2, h2, g1, g2, g3⟩ := Tr.ts_of p (e :: q) ts0 h0 ts' h' (hs ▸ r.tr) (hs ▸ r.dst)
  obtain ⟨rfl, _⟩ := g1
  by_cases hx : ∃ (j : Nat) (o : Oper), all[j]? = some o ∧ o.dst = some t
  · obtain ⟨j, o, h1, h3⟩ := hx
    rcases hw j o h1 h3 with hD | ⟨y, y1, y2, y3⟩
    case inr =>
      have hym : y ∈ tes := by rw [hs]; exact List.mem_append_right _ (List.mem_cons_of_mem _ y1)
      have hSj : S j = false := by
        cases hb : S j with
        | false => rfl
        | true =>
          have := y3 S hS (hS y.a.i y.a.o (by rw [y2]; exact hb) (r.one y hym).1)
          rw [this] at hn; cases hn
      have hone : ∀ x ∈ tes, x.a.o.dst = some t → x = y := fun x hx hd2 => r.uniq hx hym (by rw [y2]; exact r.inj (r.one x hx).1 h1 hd2 h3)
      have hpn : ∀ x ∈ p, x.a.o.dst ≠ some t := by
        intro x hx hd2
        have := hone x (by rw [hs]; exact List.mem_append_left _ hx) hd2
        subst this
        obtain ⟨q1, q2, hq⟩ := List.append_of_mem y1
        exact (r.ok (p ++ e :: q1) x q2 (by rw [hs, hq]; simp)).fresh x.a (List.mem_map_of_mem (List.mem_append_left _ hx)) rfl
      rw [g3 t hpn, ht.2 t fun x hx hxs hd2 => by
        have := hone x hx hd2
        rw [this, y2, hSj] at hxs; cases hxs]
    obtain ⟨x, k1, k2⟩ := Spre_iff.1 (hD (Spre p) (r.pre_closed hs) (r.pre_deps hs))
    have hxm : x ∈ tes := by rw [hs]; exact List.mem_append_left _ k1
    have hxo : x.a.o = o := by
      have := (r.one x hxm).1
      rw [k2, h1] at this
      exact (Option.some.inj this).symm
    rw [g2 x k1 t (by rw [hxo]; exact h3)]
    exact ht.1 x hxm (by rw [k2]; exact hD S hS hd) t (by rw [hxo]; exact h3)
  · have hno : ∀ x ∈ tes, x.a.o.dst ≠ some t := fun x hxm h3 => hx ⟨x.a.i, x.a.o, (r.one x hxm).1, h3⟩
    rw [g3 t fun x hx => hno x (by rw [hs]; exact List.mem_append_left _ hx), ht.2 t fun x hx _ => hno x hx]

theorem Run.aop_eq (r : Run E call round all tes ts0 h0 ts' h') {p q : List TE} {e : TE} (hs : tes = p ++ e :: q) {S : Nat → Bool} (hS : Closed all S) (hd : ∀ j ∈ binding e.a.o, S j = true) {tsL : T AV} (ht : TsOf tes S ts0 tsL) (hn : S e.a.i = false) (h : AH) :
    aop e.a.o.op E tsL h = aop e.a.o.op E e.ts h := by
  refine aop_congr fun x hx t htx => r.agree hs hS hd ht hn fun j o h1 h2 => ?_
  have hm := writers_mem all 0 j o t h1 h2
  rw [Nat.zero_add] at hm
  rcases (r.ok p e q hs).looks t (mem_tmpsL (Array.mem_toList_iff.2 hx) htx) (t, j) hm rfl with hD | ⟨y, y1, y2, y3⟩
  · exact .inl hD
  · rw [List.mem_map] at y1
    obtain ⟨z, z1, z2⟩ := y1
    subst z2
    exact .inr ⟨z, z1, y2, y3⟩

theorem Run.gOk_eq (r : Run E call round all tes ts0 h0 ts' h') {p q : List TE} {e : TE} (hs : tes = p ++ e :: q) {S : Nat → Bool} (hS : Closed all S) (hd : ∀ j ∈ binding e.a.o, S j = true) {tsL : T AV} (ht : TsOf tes S ts0 tsL) (hn : S e.a.i = false) :
    gOk all tsL e.a.o.guard = gOk all e.ts e.a.o.guard := by
  cases hg : e.a.o.guard with
  | none => rfl
  | some g =>
    show (ob (lget all g.1) fun oj => ob oj.dst fun d => ob (T.get tsL d) _) = (ob (lget all g.1) fun oj => ob oj.dst fun d => ob (T.get e.ts d) _)
    rw [lget_eq]
    cases ho : all[g.1]? with
    | none => rfl
    | some oj =>
      show (ob oj.dst fun d => ob (T.get tsL d) _) = (ob oj.dst fun d => ob (T.get e.ts d) _)
      cases hdd : oj.dst with
      | none => rfl
      | some d =>
        show ob (T.get tsL d) _ = ob (T.get e.ts d) _
        rw [r.agree hs hS hd ht hn (t := d) fun j o h1 h2 => by
          have := r.inj h1 ho h2 hdd
          subst this
          exact .inl ((r.ok p e q hs).guard g hg)]

theorem Run.split_tr (r : Run E call round all tes ts0 h0 ts' h') {p q : List TE} {e : TE} (hs : tes = p ++ e :: q) {S : Nat → Bool} (hp : ∀ x ∈ p, x.a.k = 3 → S x.a.i = true) : Tr E call round all (e :: q) e.ts e.h0 ts' h' ∧ hOf S p h0 = e.h0 := by
  obtain ⟨ts2, g⟩ := hOf_all p (e :: q) ts0 h0 ts' h' (hs ▸ r.tr) hp (fun x hx => r.kind (by rw [hs]; exact List.mem_append_left _ hx))
  have h1 := g.1
  have h2 := g.2.1
  rw [h1, h2]
  exact ⟨by rw [← h1, ← h2] at g ⊢; rw [h1, h2] at g; rw [h1, h2]; exact g, rfl⟩

theorem Run.no_float (r : Run E call round all tes ts0 h0 ts' h') {p q : List TE} {e : TE} (hs : tes = p ++ e :: q) (hk : e.a.k = 3) : ∀ y ∈ q, y.a.k ≠ 2 := by
  intro y hy h2
  obtain ⟨q1, q2, hq⟩ := List.append_of_mem hy
  exact (r.ok (p ++ e :: q1) y q2 (by rw [hs, hq]; simp)).fl h2 e.a (List.mem_map_of_mem (by simp)) hk

theorem Run.chain_out (r : Run E call round all tes ts0 h0 ts' h') {p q : List TE} {e : TE} (hs : tes = p ++ e :: q) (hk : e.a.k = 3) {S : Nat → Bool} (hS : Closed all S) (hn : S e.a.i = false) : ∀ y ∈ q, y.a.k = 3 → S y.a.i = false := by
  intro y hy h3
  obtain ⟨q1, q2, hq⟩ := List.append_of_mem hy
  have hsp : tes = (p ++ e :: q1) ++ y :: q2 := by rw [hs, hq]; simp
  have hD := (r.ok (p ++ e :: q1) y q2 hsp).ch h3 e.a (List.mem_map_of_mem (by simp)) hk
  cases hb : S y.a.i with
  | false => rfl
  | true =>
    have := hD S hS (hS y.a.i y.a.o hb (r.one y (by rw [hsp]; simp)).1)
    rw [this] at hn; cases hn

def ins (S : Nat → Bool) (i : Nat) : Nat → Bool := fun j => S j || Nat.beq j i
theorem ins_self (S : Nat → Bool) (i : Nat) : ins S i i = true := by unfold ins; simp
theorem ins_ne (S : Nat → Bool) {i j : Nat} (h : j ≠ i) : ins S i j = S j := by
  unfold ins
  have : Nat.beq j i = false := by
    cases hb : Nat.beq j i with
    | false => rfl
    | true => exact absurd (nbeq_ok hb) h
  rw [this, Bool.or_false]
theorem ins_false {S : Nat → Bool} {i j : Nat} (h : ins S i j = false) : S j = false ∧ j ≠ i := by
  unfold ins at h
  rw [Bool.or_eq_false_iff] at h
  exact ⟨h.1, fun e => by rw [e] at h; simp at h⟩

theorem Run.ins_closed (r : Run E call round all tes ts0 h0 ts' h') {e : TE} (he : e ∈ tes) {S : Nat → Bool} (hS : Closed all S) (hd : ∀ j ∈ binding e.a.o, S j = true) : Closed all (ins S e.a.i) := by
  intro k o hk ho j hj
  have up : S j = true → ins S e.a.i j = true := fun h => by unfold ins; rw [h]; rfl
  by_cases hke : k = e.a.i
  · rw [hke, (r.one e he).1] at ho
    cases ho
    exact up (hd j hj)
  · rw [ins_ne _ hke] at hk
    exact up (hS k o hk ho j hj)

theorem Run.ins_ts (r : Run E call round all tes ts0 h0 ts' h') {e : TE} (he : e ∈ tes) {S : Nat → Bool} {tsL : T AV} (ht : TsOf tes S ts0 tsL) : TsOf tes (ins S e.a.i) ts0 (put tsL e.a.o.dst e.v) := by
  refine ⟨fun x hx hxs d hd => ?_, fun t hno => ?_⟩
  · by_cases hxe : x.a.i = e.a.i
    · have := r.uniq hx he hxe
      subst this
      rw [hd]
      exact T.get_set_same _ _ _
    · rw [ins_ne _ hxe] at hxs
      have h1 := ht.1 x hx hxs d hd
      cases hde : e.a.o.dst with
      | none => exact h1
      | some d2 =>
        have hne : d ≠ d2 := fun h => hxe (r.inj (r.one x hx).1 (r.one e he).1 (h ▸ hd) hde)
        show T.get (T.set tsL d2 e.v) d = _
        rw [T.get_set_ne _ _ hne]
        exact h1
  · have h1 := hno e he (ins_self _ _)
    have h2 := ht.2 t fun x hx hxs => hno x hx (by unfold ins; rw [hxs]; rfl)
    cases hde : e.a.o.dst with
    | none => exact h2
    | some d2 =>
      show T.get (T.set tsL d2 e.v) t = _
      rw [T.get_set_ne _ _ fun h => h1 (by rw [hde, h])]
      exact h2

/-- memory at an effect of the row -/
theorem Run.heap_chain (r : Run E call round all tes ts0 h0 ts' h') {p q : List TE} {e : TE} (hs : tes = p ++ e :: q) (hk : e.a.k = 3) {S : Nat → Bool} (hS : Closed all S) (hd : ∀ j ∈ binding e.a.o, S j = true) (hn : S e.a.i = false) :
    hOf S tes h0 = e.h0 ∧ hOf (ins S e.a.i) tes h0 = e.h1 := by
  have hp : ∀ x ∈ p, x.a.k = 3 → S x.a.i = true := fun x hx h3 => (r.ok p e q hs).ch hk x.a (List.mem_map_of_mem hx) h3 S hS hd
  obtain ⟨_, g2⟩ := r.split_tr hs hp
  have hpi : ∀ x ∈ p, x.a.i ≠ e.a.i := fun x hx => (r.ok p e q hs).fresh x.a (List.mem_map_of_mem hx)
  have hqi : ∀ y ∈ q, y.a.i ≠ e.a.i := by
    intro y hy
    obtain ⟨q1, q2, hq⟩ := List.append_of_mem hy
    exact Ne.symm ((r.ok (p ++ e :: q1) y q2 (by rw [hs, hq]; simp)).fresh e.a (List.mem_map_of_mem (by simp)))
  constructor
  · rw [hs, hOf_append, g2]
    refine hOf_rest (e :: q) _ (fun y hy => ?_) (fun y hy h3 => ?_)
    · rcases List.mem_cons.1 hy with rfl | hy
      · omega
      · exact r.no_float hs hk y hy
    · rcases List.mem_cons.1 hy with rfl | hy
      · exact hn
      · exact r.chain_out hs hk hS hn y hy h3
  · rw [hs, hOf_append, hOf_congr (S' := S) p _ fun x hx _ => ins_ne S (hpi x hx), g2]
    unfold hOf
    rw [hk, ins_self]
    show hOf _ q e.h1 = e.h1
    exact hOf_rest q _ (r.no_float hs hk) fun y hy h3 => by
      rw [ins_ne S (hqi y hy)]
      exact r.chain_out hs hk hS hn y hy h3

/-- memory at what is no effect of the row -/
theorem Run.heap_other (r : Run E call round all tes ts0 h0 ts' h') {e : TE} (he : e ∈ tes) (hk : e.a.k ≠ 3) (S : Nat → Bool) : hOf (ins S e.a.i) tes h0 = hOf S tes h0 :=
  hOf_congr tes h0 fun x hx h3 => ins_ne S fun h => hk (by rw [← r.uniq hx he h]; exact h3)

/-- what looks into memory is asked again wherever it may stand -/
theorem Run.good (r : Run E call round all tes ts0 h0 ts' h') {e : TE} {S : Nat → Bool} (hS : Closed all S) (hn : S e.a.i = false) {Good : AH → Prop} : ∀ (q p : List TE), tes = p ++ q → (∀ ts v, ∀ c c' (ts1 : T AV) (hc hH : AH), ckOk e.a.i c (q.map (·.a)) = true → c ≤ c' → Asked E e.a.o.op ts v c' q → (∀ x h2, aop e.a.o.op E ts x = some (.val v h2) → Good x) → Good hc → Good hH →
    Tr E call round all q ts1 hH ts' h' → Good (hOf S q hc))
  | [], p, hs, ts, v, c, c', ts1, hc, hH, _, _, _, _, hg, _, _ => hg
  | y :: q, p, hs, ts, v, c, c', ts1, hc, hH, hck, hcc, ha, hgood, hg, hgH, t => by
    have hy : y ∈ tes := by rw [hs]; simp
    have hs2 : tes = (p ++ [y]) ++ q := by rw [hs]; simp
    have hq1 := Tr.h1_quiet t
    obtain ⟨_, th0, _, t4, t5, t6⟩ := t
    have hck : (bif Nat.ble y.a.k 1 then ckOk e.a.i c (q.map (·.a)) else bif Nat.beq y.a.k 3 && tb y.a.m e.a.i then true else match c with
      | 0 => false
      | c + 1 => ckOk e.a.i c (q.map (·.a))) = true := by
      cases c <;> exact hck
    cases hb : Nat.ble y.a.k 1 with
    | true =>
      rw [hb] at hck
      have hle : y.a.k ≤ 1 := Nat.le_of_ble_eq_true hb
      have e1 : (bif Nat.beq y.a.k 2 || (Nat.beq y.a.k 3 && S y.a.i) then y.h1 else hc) = hc := by
        have a2 : Nat.beq y.a.k 2 = false := by
          cases h : Nat.beq y.a.k 2 with
          | false => rfl
          | true => have := nbeq_ok h; omega
        have a3 : Nat.beq y.a.k 3 = false := by
          cases h : Nat.beq y.a.k 3 with
          | false => rfl
          | true => have := nbeq_ok h; omega
        rw [a2, a3]; rfl
      unfold hOf
      rw [e1]
      have ha2 : Asked E e.a.o.op ts v c' q := by
        cases c' with
        | zero => cases q <;> exact trivial
        | succ c' => exact ha.2 (by omega)
      exact Run.good r hS hn q (p ++ [y]) hs2 ts v c c' _ hc _ hck hcc ha2 hgood hg (by rw [hq1 (by omega)]; exact hgH) t6
    | false =>
      rw [hb] at hck
      have hge : 2 ≤ y.a.k := by
        have : ¬ y.a.k ≤ 1 := fun h => by have := Nat.ble_eq_true_of_le h; rw [this] at hb; cases hb
        omega
      cases hb2 : (Nat.beq y.a.k 3 && tb y.a.m e.a.i) with
      | true =>
        rw [Bool.and_eq_true] at hb2
        have hk3 : y.a.k = 3 := nbeq_ok hb2.1
        have hyo : S y.a.i = false := by
          cases hby : S y.a.i with
          | false => rfl
          | true =>
            have := (r.one y hy).2.1 _ hb2.2 S hS (hS y.a.i y.a.o hby (r.one y hy).1)
            rw [this] at hn; cases hn
        rw [hOf_rest (y :: q) hc (fun z hz => by
          rcases List.mem_cons.1 hz with rfl | hz
          · omega
          · exact r.no_float hs hk3 z hz) (fun z hz h3 => by
          rcases List.mem_cons.1 hz with rfl | hz
          · exact hyo
          · exact r.chain_out hs hk3 hS hyo z hz h3)]
        exact hg
      | false =>
        rw [hb2] at hck
        cases c with
        | zero => cases hck
        | succ c =>
          obtain ⟨c2, rfl⟩ : ∃ c2, c' = c2 + 1 := ⟨c' - 1, by omega⟩
          have hck : ckOk e.a.i c (q.map (·.a)) = true := hck
          have hnew : Good y.h1 ∧ ∃ c3, c ≤ c3 ∧ Asked E e.a.o.op ts v c3 q := by
            cases hyg : y.g with
            | false =>
              rw [(t4 hyg).2]
              exact ⟨hgH, c2 + 1, by omega, ha.2 (by rw [hyg]; simp)⟩
            | true =>
              obtain ⟨⟨h2, g1⟩, g2⟩ := ha.1 ⟨hge, hyg⟩
              exact ⟨hgood _ h2 g1, c2, by omega, g2⟩
          obtain ⟨n1, c3, n2, n3⟩ := hnew
          have hcur : Good (bif Nat.beq y.a.k 2 || (Nat.beq y.a.k 3 && S y.a.i) then y.h1 else hc) := by
            cases (Nat.beq y.a.k 2 || (Nat.beq y.a.k 3 && S y.a.i)) with
            | true => exact n1
            | false => exact hg
          exact Run.good r hS hn q (p ++ [y]) hs2 ts v c c3 _ _ _ hck n2 n3 hgood hcur n1 t6

/-- a quiet operation tells what it told -/
theorem Run.quiet (r : Run E call round all tes ts0 h0 ts' h') {p q : List TE} {e : TE} (hs : tes = p ++ e :: q) (hk : e.a.k < 2) (hg : e.g = true) {S : Nat → Bool} (hS : Closed all S) (hd : ∀ j ∈ binding e.a.o, S j = true) (hn : S e.a.i = false) :
    aop e.a.o.op E e.ts (hOf S tes h0) = some (.val e.v (hOf S tes h0)) := by
  have he : e ∈ tes := by rw [hs]; simp
  obtain ⟨tsx, hx, t, _, _⟩ := Tr.ts_of p (e :: q) ts0 h0 ts' h' (hs ▸ r.tr) (hs ▸ r.dst)
  have t0 := t
  obtain ⟨rfl, rfl, _, _, t5, _⟩ := t0
  obtain ⟨h1eq, ⟨hq, ha, hnx⟩, hask⟩ := (t5 hg).1 hk
  have hquiet : quietOp e.a.o.op = true := by
    unfold quietOp
    rcases (r.one e he).2.2 with k | k | k | k
    · rw [k.2]; rfl
    · rw [k.2, Bool.or_true]
    · omega
    · omega
  obtain ⟨v, hh, q1, q2⟩ := quiet_op hquiet E e.ts e.h0 _ ha
  injection q1 with q1 q3
  subst q1; subst q3
  obtain ⟨q4, q5⟩ := q2 hnx
  subst q4
  rcases (r.one e he).2.2 with k | k | k | k
  · obtain ⟨v2, g1, g2⟩ := (pure_hf k.2 E e.ts).use ha
    injection g1 with g1
    rw [g1]
    exact g2 _
  · have hRd := (r.ok p e q hs).rd k.1
    have hp : ∀ x ∈ p, x.a.k = 3 → S x.a.i = true := fun x hx h3 => hRd.1 x.a (List.mem_map_of_mem hx) h3 S hS hd
    obtain ⟨tr2, g2⟩ := r.split_tr hs hp
    have e1 : (bif Nat.beq e.a.k 2 || (Nat.beq e.a.k 3 && S e.a.i) then e.h1 else e.h0) = e.h0 := by rw [k.1]; rfl
    have hG : (∃ h2, aop e.a.o.op E e.ts (hOf S tes h0) = some (.val e.v h2)) := by
      rw [hs, hOf_append, g2]
      unfold hOf
      rw [e1]
      refine r.good (Good := fun x => ∃ h2, aop e.a.o.op E e.ts x = some (.val e.v h2)) hS hn q (p ++ [e]) (by rw [hs]; simp) e.ts e.v e.a.ck e.a.ck _ _ e.h1 hRd.2 (Nat.le_refl _) hask (fun x h2 h => ⟨h2, h⟩) ⟨_, ha⟩ ?_ tr2.2.2.2.2.2
      rw [h1eq]; exact ⟨_, ha⟩
    obtain ⟨h2, hG⟩ := hG
    obtain ⟨v2, w2⟩ := q5 _ _ hG
    injection w2 with w3 w4
    rw [hG, w4]
  · omega
  · omega
end
end LA

namespace LA
open Go hiding Loc

section
variable {P : Program} {ck : Chk}

theorem Ext.low {N : Nat} {μ μ' : Mu} {h h' : AH} {w w' : World} (x : Ext μ h w μ' h' w') (hN : N ≤ h.next) : Ext μ ⟨N, h.t⟩ w μ' ⟨N, h'.t⟩ w' :=
  ⟨x.mono, fun b hb e => x.unreal b (Nat.lt_of_lt_of_le hb hN) e, Nat.le_refl _, x.size, x.keep, x.wrs, x.fresh, x.kind, x.env⟩
theorem Ext.high {μ μ' : Mu} {h h' : AH} {w w' : World} (x : Ext μ ⟨h.next, h.t⟩ w μ' ⟨h.next, h'.t⟩ w') (hn : h.next ≤ h'.next) : Ext μ h w μ' h' w' :=
  ⟨x.mono, x.unreal, hn, x.size, x.keep, x.wrs, x.fresh, x.kind, x.env⟩

theorem Ext.realize {N : Nat} {μ : Mu} {h : AH} {w : World} {b : Nat} {L : Loc} (hN : N ≤ b) (hn : μ b = none) (o : Obj) (hL : L.rb = w.heap.size) : Ext μ ⟨N, h.t⟩ w (μ.upd b L) ⟨N, h.t⟩ (w.alloc o) := by
  have hle := Mu.le_upd (μ := μ) (b := b) L hn
  have hold : ∀ i, i < w.heap.size → (w.alloc o).heap[i]? = w.heap[i]? := fun i hi => push_get _ _ _ hi
  refine ⟨hle, fun x hx e => ?_, Nat.le_refl _, by simp, fun q hq _ => hold q hq, fun x blk M h1 h2 h3 hl => ?_, fun x M e => ?_, fun q l hq => ⟨l, ?_⟩, ⟨rfl, rfl, rfl⟩⟩
  · have hx : x < N := hx
    exact ⟨by rw [Mu.upd_ne _ _ (by omega)]; exact e, rfl⟩
  · by_cases hx : x = b
    · subst hx; rw [Mu.upd_same] at h2; cases h2
      omega
    · rw [Mu.upd_ne _ _ hx] at h2
      exact ⟨x, blk, M, h1, h2, h3, rfl⟩
  · by_cases hx : x = b
    · subst hx; rw [Mu.upd_same] at e; cases e
      exact .inr (.inl (by omega))
    · rw [Mu.upd_ne _ _ hx] at e; exact .inl e
  · rw [hold q (heap_lt hq)]; exact hq

theorem Ext.ahead {N : Nat} {μ : Mu} {h : AH} {w : World} (blk : AB) (hN : N ≤ h.next) (hn : μ h.next = none) : Ext μ ⟨N, h.t⟩ w μ ⟨N, T.set h.t h.next blk⟩ w := by
  have hne : ∀ x L, μ x = some L → x ≠ h.next := fun x L e q => by rw [q, hn] at e; cases e
  refine ⟨Mu.le_refl _, fun x hx e => ?_, Nat.le_refl _, Nat.le_refl _, fun _ _ _ => rfl, fun x blk2 M h1 h2 h3 _ => ?_, fun _ _ e => .inl e, fun _ l e => ⟨l, e⟩, ⟨rfl, rfl, rfl⟩⟩
  · have hx : x < N := hx
    exact ⟨e, T.get_set_ne _ _ (by omega)⟩
  · have h1 : T.get (T.set h.t h.next blk) x = some blk2 := h1
    rw [T.get_set_ne _ _ (hne _ _ h2)] at h1
    exact ⟨x, blk2, M, h1, h2, h3, rfl⟩

theorem Mu.none_next {μ : Mu} {h : AH} {w : World} (r : R ck μ h w) : μ h.next = none := by
  cases e : μ h.next with
  | none => rfl
  | some L => exact absurd (r.dom _ _ e).1 (Nat.lt_irrefl _)

variable {E : Env} {call round : Nat → List AV → AH → RV} {all : List Oper} {tes : List TE} {ts0 : T AV} {h0 : AH} {ts' : T AV} {h' : AH}

/-- a block's making, in the hint's run -/
theorem Run.float (ok : EnvOk P E) (r : Run E call round all tes ts0 h0 ts' h') {e : TE} (he : e ∈ tes) (hk : e.a.k = 2) (hg : e.g = true) :
    ∃ (cs : List AV) (g : Nat → AV), e.v = g e.h0.next ∧ e.h1 = ⟨e.h0.next + 1, T.set e.h0.t e.h0.next (.row cs (.own []))⟩ ∧
      (∀ h2, aop e.a.o.op E e.ts h2 = some (.val (g h2.next) ⟨h2.next + 1, T.set h2.t h2.next (.row cs (.own []))⟩)) ∧
      ∀ ts2, (∀ h2, aop e.a.o.op E ts2 h2 = aop e.a.o.op E e.ts h2) → ∀ μ (w : World) (tmps : Array Value) d, TsR μ ts2 tmps → ∃ rcs ty rv, (execOp (Act.eval ⟨tmps, d⟩) e.a.o).run P w = .ok (.value rv) (w.alloc (.cells ⟨rcs⟩ ty)) ∧ VRs μ cs rcs ∧ ∀ (μ' : Mu) (b : Nat), μ' b = some ⟨w.heap.size, 0, rcs.length⟩ → VR μ' (g b) rv := by
  obtain ⟨p, q, hs⟩ := List.append_of_mem he
  obtain ⟨tsx, hx, t, _, _⟩ := Tr.ts_of p (e :: q) ts0 h0 ts' h' (hs ▸ r.tr) (hs ▸ r.dst)
  obtain ⟨rfl, rfl, _, _, t5, _⟩ := t
  have hef := (t5 hg).2 (by omega)
  have hf : floatOp e.a.o.op = true := by
    rcases (r.one e he).2.2 with k | k | k | k
    · omega
    · omega
    · exact k.2
    · omega
  cases ha : aop e.a.o.op E e.ts e.h0 with
  | none => rw [ha] at hef; cases hef
  | some nx =>
    obtain ⟨cs, g, f1, f2⟩ := float_op ok hf ha
    have h1 := f1 e.h0
    rw [h1] at hef
    have hef : some (g e.h0.next, (⟨e.h0.next + 1, T.set e.h0.t e.h0.next (.row cs (.own []))⟩ : AH)) = some (e.v, e.h1) := hef
    injection hef with hef
    injection hef with k1 k2
    refine ⟨cs, g, k1.symm, k2.symm, f1, fun ts2 hts μ w tmps d tr => ?_⟩
    have ha2 := (hts e.h0).trans ha
    obtain ⟨cs2, g2, f3, f4⟩ := float_op ok hf ha2
    obtain ⟨rcs, ty, rv, q1, q2, q3⟩ := f4 μ w tmps d tr
    have same : ∀ n, g n = g2 n ∧ cs = cs2 := by
      intro n
      have := (f3 ⟨n, .e⟩).symm.trans ((hts ⟨n, .e⟩).trans (f1 ⟨n, .e⟩))
      injection this with this
      injection this with a1 a2
      injection a2 with _ a3
      have a4 := congrArg (fun t => T.get t n) a3
      simp only [T.get_set_same] at a4
      injection a4 with a4
      injection a4 with a4 _
      exact ⟨a1.symm, a4.symm⟩
    refine ⟨rcs, ty, rv, q1, (same 0).2 ▸ q2, fun μ' b hb => ?_⟩
    rw [(same b).1]
    exact q3 μ' b hb

/-- memory at the beginning: all blocks lie ahead -/
theorem ahead_all (ok : EnvOk P E) (r : Run E call round all tes ts0 h0 ts' h') {μ : Mu} {w : World} {N : Nat} : ∀ (q p : List TE), tes = p ++ q → ∀ (ts : T AV) (h : AH), Tr E call round all q ts h ts' h' → R ck μ h w → N ≤ h.next →
    R ck μ (hOf (fun _ => false) q h) w ∧ Ext μ ⟨N, h.t⟩ w μ ⟨N, (hOf (fun _ => false) q h).t⟩ w ∧ h.next ≤ (hOf (fun _ => false) q h).next ∧ (∀ b, b < h.next → T.get (hOf (fun _ => false) q h).t b = T.get h.t b) ∧
      ∀ f ∈ q, f.a.k = 2 → f.g = true → h.next ≤ f.h0.next ∧ T.get (hOf (fun _ => false) q h).t f.h0.next = T.get f.h1.t f.h0.next
  | [], p, _, ts, h, _, rr, hN => ⟨rr, Ext.refl _ _ _, Nat.le_refl _, fun _ _ => rfl, fun f hf => by cases hf⟩
  | e :: q, p, hs, ts, h, t, rr, hN => by
    have he : e ∈ tes := by rw [hs]; simp
    have hs2 : tes = (p ++ [e]) ++ q := by rw [hs]; simp
    have hq1 := Tr.h1_quiet t
    have t0 := t
    obtain ⟨_, th0, _, t4, t5, t6⟩ := t0
    have hkd := r.kind he
    by_cases h3 : e.a.k = 3
    · have hz : hOf (fun _ => false) (e :: q) h = h := hOf_rest (e :: q) h (fun y hy => by
          rcases List.mem_cons.1 hy with rfl | hy
          · omega
          · exact r.no_float hs h3 y hy) (fun _ _ _ => rfl)
      rw [hz]
      refine ⟨rr, Ext.refl _ _ _, Nat.le_refl _, fun _ _ => rfl, fun f hf h2 => ?_⟩
      rcases List.mem_cons.1 hf with rfl | hf
      · omega
      · exact absurd h2 (r.no_float hs h3 f hf)
    · have e1 : (bif Nat.beq e.a.k 2 || (Nat.beq e.a.k 3 && (fun _ => false) e.a.i) then e.h1 else h) = e.h1 := by
        rcases hkd with k | k | k | k
        · rw [k]; exact (hq1 (by omega)).symm
        · rw [k]; exact (hq1 (by omega)).symm
        · rw [k]; rfl
        · exact absurd k h3
      unfold hOf
      rw [e1]
      by_cases hf : e.a.k = 2 ∧ e.g = true
      · obtain ⟨cs, g, f1, f2, _, _⟩ := r.float ok he hf.1 hf.2
        rw [th0] at f2
        have hnone := Mu.none_next rr
        have rr2 : R ck μ e.h1 w := by rw [f2]; exact rr.ahead cs
        have hn1 : e.h1.next = h.next + 1 := by rw [f2]
        obtain ⟨k1, k2, k3, k4, k5⟩ := ahead_all (N := N) ok r q (p ++ [e]) hs2 _ e.h1 t6 rr2 (by omega)
        have hx : Ext μ ⟨N, h.t⟩ w μ ⟨N, e.h1.t⟩ w := by rw [f2]; exact Ext.ahead _ hN hnone
        refine ⟨k1, hx.trans k2, by omega, fun b hb => ?_, fun f hfm h2 hg => ?_⟩
        · rw [k4 b (by omega), f2]
          exact T.get_set_ne _ _ (by omega)
        · rcases List.mem_cons.1 hfm with rfl | hfm
          · rw [th0]
            exact ⟨Nat.le_refl _, k4 _ (by omega)⟩
          · obtain ⟨g1, g2⟩ := k5 f hfm h2 hg
            exact ⟨by omega, g2⟩
      · have e2 : e.h1 = h := by
          cases hg : e.g with
          | false => exact (t4 hg).2
          | true =>
            rcases hkd with k | k | k | k
            · exact hq1 (by omega)
            · exact hq1 (by omega)
            · exact absurd ⟨k, hg⟩ hf
            · exact absurd k h3
        obtain ⟨k1, k2, k3, k4, k5⟩ := ahead_all ok r q (p ++ [e]) hs2 _ e.h1 t6 (e2 ▸ rr) (e2 ▸ hN)
        rw [e2] at k1 k2 k3 k4 k5 ⊢
        refine ⟨k1, k2, k3, k4, fun f hfm h2 hg => ?_⟩
        rcases List.mem_cons.1 hfm with rfl | hfm
        · exact absurd ⟨h2, hg⟩ hf
        · exact k5 f hfm h2 hg

/-- a point of another order -/
structure Inv (ck : Chk) (lo : Nat) (b : Frame) (μ0 : Mu) (w0 : World) (all : List Oper) (tes : List TE) (ts0 : T AV) (h0 : AH) (S : Nat → Bool) (tsL : T AV) (a : Act) (μ : Mu) (w : World) : Prop where
  cl : Closed all S
  ts : TsOf tes S ts0 tsL
  st : St ck lo b μ (hOf S tes h0) w tsL a
  fl : ∀ f ∈ tes, f.a.k = 2 → f.g = true → S f.a.i = false → h0.next ≤ f.h0.next ∧ μ f.h0.next = none ∧ T.get (hOf S tes h0).t f.h0.next = T.get f.h1.t f.h0.next
  ext : Ext μ0 ⟨h0.next, h0.t⟩ w0 μ ⟨h0.next, (hOf S tes h0).t⟩ w
  nx : h0.next ≤ (hOf S tes h0).next

theorem inv_step (ok : EnvOk P E) (hc : CallsOk P ck call) (hr : RoundsOk P ck round) {ops : Array Oper} (r : Run E call round ops.toList tes ts0 h0 ts' h') {lo : Nat} {b : Frame} {μ0 : Mu} {w0 : World} {S : Nat → Bool} {tsL : T AV} {a : Act} {μ : Mu} {w : World}
    (iv : Inv ck lo b μ0 w0 ops.toList tes ts0 h0 S tsL a μ w) {e : TE} (he : e ∈ tes) (hd : ∀ j ∈ binding e.a.o, S j = true) (hn : S e.a.i = false) (hB : InB a.tmps.size ops.toList) (rest : List Nat) (k : List Item) (cs : List Frame) :
    ∃ a1 w1 μ1 ts1, Steps P (lone (b.atR a (.inRegion ops (e.a.i :: rest) :: k)) cs w) (lone (b.atR a1 (.inRegion ops rest :: k)) cs w1) ∧ a1.tmps.size = a.tmps.size ∧ Inv ck lo b μ0 w0 ops.toList tes ts0 h0 (ins S e.a.i) ts1 a1 μ1 w1 := by
  obtain ⟨p, q, hs⟩ := List.append_of_mem he
  obtain ⟨tsx, hx, t, _, _⟩ := Tr.ts_of p (e :: q) ts0 h0 ts' h' (hs ▸ r.tr) (hs ▸ r.dst)
  obtain ⟨hets, heh0, t3, t4, t5, _⟩ := t
  have ho : ops[e.a.i]? = some e.a.o := by
    have := (r.one e he).1
    rw [Array.getElem?_toList] at this
    exact this
  have hall : ∀ (j : Nat) (oj : Oper) (d : Nat), ops[j]? = some oj → oj.dst = some d → d < a.tmps.size := fun j oj d h1 h2 => hB j oj d (by rw [Array.getElem?_toList]; exact h1) h2
  have hts : tsx = e.ts := hets.symm
  have hgk : gOk ops.toList tsL e.a.o.guard = some e.g := by
    rw [r.gOk_eq hs iv.cl hd iv.ts hn, ← hts]
    exact t3
  have hcl' := r.ins_closed he iv.cl hd
  have hts' := r.ins_ts he iv.ts
  by_cases hfl : e.a.k = 2 ∧ e.g = true
  · -- a block that comes to be
    obtain ⟨cs0, g, f1, f2, f3, f4⟩ := r.float ok he hfl.1 hfl.2
    obtain ⟨rcs, ty, rv, q1, q2, q3⟩ := f4 tsL (fun h2 => r.aop_eq hs iv.cl hd iv.ts hn h2) μ w a.tmps a.defers iv.st.tr
    obtain ⟨n0, n1, n2⟩ := iv.fl e he hfl.1 hfl.2 hn
    have hrow : T.get (hOf S tes h0).t e.h0.next = some (.row cs0 (.own [])) := by
      rw [n2, f2]; exact T.get_set_same _ _ _
    have hh : hOf (ins S e.a.i) tes h0 = hOf S tes h0 := r.heap_other he (by omega) S
    have r1 := iv.st.r.realize hrow n1 q2 ty
    have x1 : Ext μ ⟨h0.next, (hOf S tes h0).t⟩ w (μ.upd e.h0.next ⟨w.heap.size, 0, rcs.length⟩) ⟨h0.next, (hOf S tes h0).t⟩ (w.alloc (.cells ⟨rcs⟩ ty)) := Ext.realize n0 n1 _ rfl
    have hv : VR (μ.upd e.h0.next ⟨w.heap.size, 0, rcs.length⟩) e.v rv := by rw [f1]; exact q3 _ _ (Mu.upd_same _ _ _)
    have s1 : St ck lo b (μ.upd e.h0.next ⟨w.heap.size, 0, rcs.length⟩) (hOf S tes h0) (w.alloc (.cells ⟨rcs⟩ ty)) tsL a := ⟨r1, iv.st.tr.mono x1.mono, iv.st.fr.ext x1, iv.st.mks.ext x1, Nat.le_trans iv.st.lo x1.size⟩
    have hdd : ∀ x, e.a.o.dst = some x → x < a.tmps.size := fun x hx => hall e.a.i e.a.o x ho hx
    have s2 := s1.put hv hdd
    have hnd : ∀ c, e.a.o.op ≠ .defer c := by
      intro c hcc
      have := f3 h0
      rw [hcc] at this
      cases this
    have hw := gOk_ok iv.st.tr hgk hall
    rw [hfl.2] at hw
    have hg := stepGR_op (P := P) (b := b) (a := a) (k := k) (cs := cs) (w := w) (rest := rest) ho hw
    rw [Oper.semAt_eq _ _ _ hnd] at hg
    have hfin : ∀ v, (b.atR a (.inRegion ops (e.a.i :: rest) :: k)).finish v = b.atR (a.put e.a.o.dst v) (.inRegion ops rest :: k) := by
      intro v; rw [Frame.finish_atR, ho]; rfl
    refine ⟨a.put e.a.o.dst rv, w.alloc (.cells ⟨rcs⟩ ty), μ.upd e.h0.next ⟨w.heap.size, 0, rcs.length⟩, put tsL e.a.o.dst e.v, .one (step_lone_go ?_), (iv.st.tr.mono x1.mono |>.put hv hdd).2.1, ?_⟩
    · rw [hg, ← hfin]
      simp [stepG.apply, q1]
    · refine ⟨hcl', hts', by rw [hh]; exact s2, fun f hf h2 hg2 hnf => ?_, by rw [hh]; exact iv.ext.trans x1, by rw [hh]; exact iv.nx⟩
      obtain ⟨m1, m2⟩ := ins_false hnf
      obtain ⟨k0, k1, k2⟩ := iv.fl f hf h2 hg2 m1
      refine ⟨k0, ?_, by rw [hh]; exact k2⟩
      obtain ⟨cs2, g2, _, f5, _, _⟩ := r.float ok hf h2 hg2
      have hne : f.h0.next ≠ e.h0.next := by
        -- two blocks made ahead have two numbers
        have pw : tes.Pairwise fun x y => x.a.k = 2 → x.g = true → y.a.k = 2 → y.g = true → x.h0.next < y.h0.next := by
          refine pw_of tes fun p1 y q1 e1 x hx hxk hxg hyk hyg => ?_
          obtain ⟨pa, pb, e2⟩ := List.append_of_mem hx
          have e3 : tes = pa ++ (x :: (pb ++ y :: q1)) := by rw [e1, e2]; simp
          obtain ⟨ts3, h3, t7, _, _⟩ := Tr.ts_of pa (x :: (pb ++ y :: q1)) ts0 h0 ts' h' (e3 ▸ r.tr) (e3 ▸ r.dst)
          obtain ⟨_, t8, _, _, _, t9⟩ := t7
          obtain ⟨csx, gx, _, fx, _, _⟩ := r.float ok (by rw [e3]; simp) hxk hxg
          have mono : ∀ (l : List TE) (pp : List TE), tes = pp ++ (l ++ y :: q1) → ∀ (ts : T AV) (h : AH), Tr E call round ops.toList (l ++ y :: q1) ts h ts' h' → h.next ≤ y.h0.next := by
            intro l
            induction l with
            | nil => intro pp _ ts h t; rw [t.2.1]; exact Nat.le_refl _
            | cons z l ih =>
              intro pp hpp ts h t
              have t1 : Tr E call round ops.toList (z :: (l ++ y :: q1)) ts h ts' h' := t
              have hqz := Tr.h1_quiet t1
              obtain ⟨_, tz, _, t4z, _, t6z⟩ := t1
              have hzm : z ∈ tes := by rw [hpp]; simp
              have hz3 : z.a.k ≠ 3 := fun h3 => r.no_float (p := pp) (q := l ++ y :: q1) hpp h3 y (by simp) hyk
              have := ih (pp ++ [z]) (by rw [hpp]; simp) _ _ t6z
              have hle : h.next ≤ z.h1.next := by
                cases hzg : z.g with
                | false => rw [(t4z hzg).2]; exact Nat.le_refl _
                | true =>
                  rcases r.kind hzm with k | k | k | k
                  · rw [hqz (by omega)]; exact Nat.le_refl _
                  · rw [hqz (by omega)]; exact Nat.le_refl _
                  · obtain ⟨_, _, _, fz, _, _⟩ := r.float ok hzm k hzg
                    rw [fz, tz]; simp
                  · exact absurd k hz3
              omega
          have := mono pb (pa ++ [x]) (by rw [e3]; simp) _ _ t9
          rw [fx] at this
          exact this
        intro heq
        have hfe : f ≠ e := fun h => m2 (by rw [h])
        have hR := pw_mem (R := fun x y : TE => x.a.k = 2 → x.g = true → y.a.k = 2 → y.g = true → x.h0.next ≠ y.h0.next) (fun h h1 h2 h3 h4 => (h h3 h4 h1 h2).symm) (pw.imp fun h h1 h2 h3 h4 => Nat.ne_of_lt (h h1 h2 h3 h4)) hf he hfe
        exact hR h2 hg2 hfl.1 hfl.2 heq
      rw [Mu.upd_ne _ _ hne]
      exact k1
  · -- all others: as one operation
    have hres : opStep E call round ops.toList e.a.o tsL (fun ts h => .ok .normal ts h) (hOf S tes h0) = .ok .normal (put tsL e.a.o.dst e.v) (hOf (ins S e.a.i) tes h0) := by
      unfold opStep
      rw [hgk]
      cases hgv : e.g with
      | false =>
        show Res.ok .normal (put tsL e.a.o.dst LA.undef) (hOf S tes h0) = _
        rw [(t4 hgv).1]
        have hh : hOf (ins S e.a.i) tes h0 = hOf S tes h0 := by
          by_cases h3 : e.a.k = 3
          · obtain ⟨g1, g2⟩ := r.heap_chain hs h3 iv.cl hd hn
            rw [g1, g2, (t4 hgv).2]
            exact heh0.symm
          · exact r.heap_other he h3 S
        rw [hh]
      | true =>
        show onNx call round tsL e.a.o.dst (fun ts h => .ok .normal ts h) (aop e.a.o.op E tsL (hOf S tes h0)) = _
        rw [onNx_eq, r.aop_eq hs iv.cl hd iv.ts hn]
        rcases r.kind he with k | k | k | k
        · rw [r.quiet hs (by omega) hgv iv.cl hd hn, r.heap_other he (by omega) S]; rfl
        · rw [r.quiet hs (by omega) hgv iv.cl hd hn, r.heap_other he (by omega) S]; rfl
        · exact absurd ⟨k, hgv⟩ hfl
        · obtain ⟨g1, g2⟩ := r.heap_chain hs k iv.cl hd hn
          have hef := (t5 hgv).2 (by omega)
          rw [g1, g2, ← hts, heh0, hef]
    obtain ⟨a1, w1, μ1, ts1, h1, g1, g2, g3, g4, g5⟩ := opStep_ok ok hc hr ho hall (rest := rest) hres iv.st k cs
    injection g5 with _ g5 g6
    subst g5; subst g6
    refine ⟨a1, w1, μ1, _, g1, g2, hcl', hts', g3, fun f hf h2 hg2 hnf => ?_, iv.ext.trans (g4.low iv.nx), Nat.le_trans iv.nx g4.next⟩
    obtain ⟨m1, m2⟩ := ins_false hnf
    obtain ⟨k0, k1, k2⟩ := iv.fl f hf h2 hg2 m1
    obtain ⟨cs2, gg2, _, f5, _, _⟩ := r.float ok hf h2 hg2
    have hlt : f.h0.next < (hOf S tes h0).next := iv.st.r.live _ (.row cs2 (.own [])) (by rw [k2, f5]; exact T.get_set_same _ _ _)
    obtain ⟨u1, u2⟩ := g4.unreal _ hlt k1
    exact ⟨k0, u1, u2.trans k2⟩

/-- the order that the machine takes -/
theorem draw_go (ok : EnvOk P E) (hc : CallsOk P ck call) (hr : RoundsOk P ck round) {ops : Array Oper} (r : Run E call round ops.toList tes ts0 h0 ts' h') {lo : Nat} {b : Frame} {μ0 : Mu} {w0 : World} (k : List Item) (cs : List Frame) :
    ∀ (fuel t : Nat) (listed : Array Bool) (tsL : T AV) (a : Act) (μ : Mu) (w : World), listed.size = ops.size → listed.toList.count true + fuel = ops.size → InB a.tmps.size ops.toList →
      Inv ck lo b μ0 w0 ops.toList tes ts0 h0 (fun i => listed.getD i false) tsL a μ w →
      ∃ a1 w1 μ1 ts1 S1, Steps P (lone (b.atR a (.inRegion ops (Region.linearise.go .any ops fuel t listed []) :: k)) cs w) (lone (b.atR a1 k) cs w1) ∧ a1.tmps.size = a.tmps.size ∧ Inv ck lo b μ0 w0 ops.toList tes ts0 h0 S1 ts1 a1 μ1 w1 ∧ ∀ i, i < ops.size → S1 i = true := by
  intro fuel
  induction fuel with
  | zero =>
    intro t listed tsL a μ w hsz hl hB iv
    refine ⟨a, w, μ, tsL, _, ?_, rfl, iv, fun i hi => ?_⟩
    · simp only [Region.linearise.go, List.reverse_nil]
      exact .one stepR_region_end
    · have h1 : listed.toList.count true = listed.toList.length := by rw [Array.length_toList]; omega
      have h2 := List.count_eq_length.1 h1
      have hi' : i < listed.size := by omega
      show listed.getD i false = true
      rw [Array.getD_eq_getD_getElem?, Array.getElem?_eq_getElem hi']
      exact (h2 listed[i] (Array.mem_toList_iff.2 (Array.getElem_mem hi'))).symm
  | succ fuel ih =>
    intro t listed tsL a μ w hsz hl hB iv
    simp only [Region.linearise.go]
    change ∃ a1 w1 μ1 ts1 S1, Steps P (lone (b.atR a (.inRegion ops (match (Region.ready .any ops listed)[t % (Region.ready .any ops listed).length]? with
      | some i => Region.linearise.go .any ops fuel (t / (Region.ready .any ops listed).length) (listed.setIfInBounds i true) [i]
      | none => [].reverse) :: k)) cs w) _ ∧ _
    have hunl : ∀ i, i < ops.size → (listed.getD i true = false ↔ listed.getD i false = false) := by
      intro i hi
      rw [Array.getD_eq_getD_getElem?, Array.getD_eq_getD_getElem?, Array.getElem?_eq_getElem (by omega)]
      exact Iff.rfl
    have hready : ∀ i, i ∈ Region.ready .any ops listed ↔ i < ops.size ∧ listed.getD i false = false ∧ ∃ o, ops[i]? = some o ∧ ∀ j ∈ binding o, listed.getD j false = true := by
      intro i
      unfold Region.ready
      rw [List.mem_filter, List.mem_range]
      constructor
      · rintro ⟨h1, h2⟩
        rw [Bool.and_eq_true] at h2
        refine ⟨h1, (hunl i h1).1 (by simpa using h2.1), ?_⟩
        obtain ⟨h3, h4⟩ := h2
        rw [Array.getElem?_eq_getElem h1] at h4
        refine ⟨ops[i], Array.getElem?_eq_getElem h1, fun j hj => ?_⟩
        have h4 : (ops[i].after.all fun e => !Region.binds .any e || listed.getD e.on false) = true := h4
        unfold binding at hj
        rw [List.mem_map] at hj
        obtain ⟨e, he, rfl⟩ := hj
        rw [List.mem_filter] at he
        rw [Array.all_eq_true_iff_forall_mem] at h4
        have := h4 e (Array.mem_toList_iff.1 he.1)
        rw [he.2] at this
        simpa using this
      · rintro ⟨h1, h2, o, h3, h4⟩
        refine ⟨h1, ?_⟩
        rw [Bool.and_eq_true]
        refine ⟨by rw [(hunl i h1).2 h2]; rfl, ?_⟩
        rw [h3]
        show (o.after.all fun e => !Region.binds .any e || listed.getD e.on false) = true
        rw [Array.all_eq_true_iff_forall_mem]
        intro e he
        cases hb : Region.binds .any e with
        | false => rfl
        | true =>
          rw [h4 e.on (List.mem_map.2 ⟨e, List.mem_filter.2 ⟨Array.mem_toList_iff.2 he, hb⟩, rfl⟩)]
          rfl
    cases hi : (Region.ready .any ops listed)[t % (Region.ready .any ops listed).length]? with
    | none =>
      have hnil : Region.ready .any ops listed = [] := by
        cases hrr : Region.ready .any ops listed with
        | nil => rfl
        | cons x xs =>
          rw [hrr] at hi
          have hlt : t % (x :: xs).length < (x :: xs).length := Nat.mod_lt _ (by simp)
          simp at hi
          simp at hlt
          omega
      -- all are listed
      have hfull : ∀ e ∈ tes, listed.getD e.a.i false = true := by
        have gen : ∀ (q p : List TE), tes = p ++ q → (∀ x ∈ p, listed.getD x.a.i false = true) → ∀ x ∈ q, listed.getD x.a.i false = true := by
          intro q
          induction q with
          | nil => intro p _ _ x hx; cases hx
          | cons y q ihq =>
            intro p hs hp x hx
            have hy : listed.getD y.a.i false = true := by
              cases hb : listed.getD y.a.i false with
              | true => rfl
              | false =>
                have ho := (r.one y (by rw [hs]; simp)).1
                rw [Array.getElem?_toList] at ho
                have hlt : y.a.i < ops.size := by
                  obtain ⟨h1, _⟩ := Array.getElem?_eq_some_iff.1 ho
                  exact h1
                have : y.a.i ∈ Region.ready .any ops listed := (hready _).2 ⟨hlt, hb, _, ho, fun j hj => by
                  obtain ⟨z, z1, z2⟩ := Spre_iff.1 (r.pre_deps hs j hj)
                  rw [← z2]
                  exact hp z z1⟩
                rw [hnil] at this
                cases this
            rcases List.mem_cons.1 hx with rfl | hx
            · exact hy
            · exact ihq (p ++ [y]) (by rw [hs]; simp) (fun z hz => by
                rcases List.mem_append.1 hz with hz | hz
                · exact hp z hz
                · rw [List.mem_singleton] at hz; subst hz; exact hy) x hx
        exact gen tes [] rfl (fun x hx => by cases hx)
      refine ⟨a, w, μ, tsL, _, by simpa using Steps.one stepR_region_end, rfl, iv, fun i hi => ?_⟩
      obtain ⟨e, h1, h2⟩ := r.full i (by simpa using hi)
      have := hfull e h1
      rw [h2] at this
      exact this
    | some i =>
      dsimp only
      rw [linearise_go_acc, List.reverse_singleton, List.singleton_append]
      obtain ⟨h1, h2, o, h3, h4⟩ := (hready i).1 (List.mem_of_getElem? hi)
      obtain ⟨e, he, hei⟩ := r.full i (by simpa using h1)
      have heo : e.a.o = o := by
        have := (r.one e he).1
        rw [hei, Array.getElem?_toList, h3] at this
        exact (Option.some.inj this).symm
      subst hei
      obtain ⟨a1, w1, μ1, ts1, g1, g2, g3⟩ := inv_step ok hc hr r iv he (by rw [heo]; exact h4) h2 hB (Region.linearise.go .any ops fuel (t / (Region.ready .any ops listed).length) (listed.setIfInBounds e.a.i true) []) k cs
      have hS : (fun j => (listed.setIfInBounds e.a.i true).getD j false) = ins (fun i => listed.getD i false) e.a.i := by
        funext j
        by_cases hj : j = e.a.i
        · rw [hj, ins_self, Array.getD_eq_getD_getElem?, Array.getElem?_setIfInBounds_self_of_lt (by omega)]
          rfl
        · rw [ins_ne _ hj, Array.getD_eq_getD_getElem?, Array.getElem?_setIfInBounds_ne (Ne.symm hj), Array.getD_eq_getD_getElem?]
      have hcnt : (listed.setIfInBounds e.a.i true).toList.count true + fuel = ops.size := by
        have hlt : e.a.i < listed.toList.length := by rw [Array.length_toList]; omega
        have hv : listed.toList[e.a.i] = false := by
          rw [Array.getD_eq_getD_getElem?, Array.getElem?_eq_getElem (by omega)] at h2
          exact h2
        rw [Array.toList_setIfInBounds, List.count_set hlt, hv]
        show listed.toList.count true - 0 + 1 + fuel = ops.size
        omega
      obtain ⟨a2, w2, μ2, ts2, S2, k1, k2, k3, k4⟩ := ih (t / (Region.ready .any ops listed).length) (listed.setIfInBounds e.a.i true) ts1 a1 μ1 w1 (by simpa using hsz) hcnt (g2 ▸ hB) (by rw [hS]; exact g3)
      exact ⟨a2, w2, μ2, ts2, S2, g1.trans k1, k2.trans g2, k3, k4⟩

noncomputable def hintCk (E : Env) (fx : Nat → Option (Array Value)) : Chk := ⟨fun fid id ops => match hintOf E fid id with
  | some hs => chkRegion hs ops
  | none => true, fx⟩

/-- a region that draws its order comes to what A comes to -/
theorem draw_ok {fx : Nat → Option (Array Value)} (hm : P.follows .mixedOrders = true) (ok : EnvOk P E) : DrawOk P (hintCk E fx) E := by
  intro call round hc hr fid id ops hs hh hck ts h ex ts' h' e lo b cs a k μ w hb hB s
  have hck : chkRegion hs ops.toList = true := by
    have hck : (match hintOf E fid id with | some hs => chkRegion hs ops.toList | none => true) = true := hck
    rw [hh] at hck
    exact hck
  obtain ⟨rfl, tes, r⟩ := run_of hck e
  have d : Drawn w { w with drawn := w.drawn + 1 } := ⟨rfl, rfl, rfl, rfl⟩
  refine Goes.head (.one stepR_region_draw) rfl (Ext.drawn (μ := μ) (h := h) d) ?_
  have s1 := s.ext (s.r.drawn d) (Ext.drawn d)
  generalize hw1 : ({ w with drawn := w.drawn + 1 } : World) = w1 at s1
  simp only [Region.schedule, hm, Bool.true_or, if_true, Region.linearise]
  generalize w.tape w.drawn (.order b.fn id) = t
  obtain ⟨k1, k2, k3, k4, k5⟩ := ahead_all (N := h.next) ok r tes [] rfl ts h r.tr s1.r (Nat.le_refl _)
  have hS0 : (fun i => (Array.replicate ops.size false).getD i false) = fun _ => false := by
    funext i
    rw [Array.getD_eq_getD_getElem?, Array.getElem?_replicate]
    split <;> rfl
  have iv : Inv (hintCk E fx) lo b μ w1 ops.toList tes ts h (fun i => (Array.replicate ops.size false).getD i false) ts a μ w1 := by
    rw [hS0]
    refine ⟨fun k o hk => (by cases hk), ⟨fun e _ he => (by cases he), fun _ _ => rfl⟩, ⟨k1, s1.tr, s1.fr, s1.mks, s1.lo⟩, fun f hf h2 hg _ => ?_, k2, k3⟩
    obtain ⟨q1, q2⟩ := k5 f hf h2 hg
    refine ⟨q1, ?_, q2⟩
    cases hn : μ f.h0.next with
    | none => rfl
    | some L => exact absurd (s1.r.dom _ _ hn).1 (Nat.not_lt.2 q1)
  obtain ⟨a1, w2, μ1, ts1, S1, g1, g2, g3, g4⟩ := draw_go ok hc hr r k cs ops.size t (Array.replicate ops.size false) ts a μ w1 (by simp) (by simp [List.count_replicate]) hB iv
  have hdone : ∀ x ∈ tes, S1 x.a.i = true := fun x hx => by
    have ho := (r.one x hx).1
    rw [Array.getElem?_toList] at ho
    exact g4 _ (Array.getElem?_eq_some_iff.1 ho).1
  obtain ⟨ts2, q⟩ := hOf_all (S := S1) tes [] ts h ts' h' (by rw [List.append_nil]; exact r.tr) (fun x hx _ => hdone x hx) (fun x hx => r.kind hx)
  have hh : hOf S1 tes h = h' := q.2
  have htr : TsR μ1 ts' a1.tmps := by
    obtain ⟨ts3, h3, p1, p2, p3⟩ := Tr.ts_of tes [] ts h ts' h' (by rw [List.append_nil]; exact r.tr) (by rw [List.append_nil]; exact r.dst)
    have p1 : ts3 = ts' := p1.1
    subst p1
    intro u v hu
    refine g3.st.tr u v ?_
    by_cases hx : ∃ e ∈ tes, e.a.o.dst = some u
    · obtain ⟨e, he, hde⟩ := hx
      rw [g3.ts.1 e he (hdone e he) u hde, ← p2 e he u hde]
      exact hu
    · have hno : ∀ e ∈ tes, e.a.o.dst ≠ some u := fun e he hde => hx ⟨e, he, hde⟩
      rw [g3.ts.2 u fun e he _ => hno e he, ← p3 u hno]
      exact hu
  have st := g3.st
  rw [hh] at st
  have hx := g3.ext
  rw [hh] at hx
  have hn := g3.nx
  rw [hh] at hn
  exact ⟨a1, w2, μ1, k, g1, rfl, g2, ⟨st.r, htr, st.fr, st.mks, st.lo⟩, hx.high hn⟩
end
end LA

namespace LA
open Go hiding Loc
open Go.RowKit

/-! ## texts as lists of numbers -/
def isPre : List Nat → List Nat → Bool
  | [], _ => true
  | _ :: _, [] => false
  | a :: q, b :: r => bif Nat.beq a b then isPre q r else false
def findN (sub : List Nat) : List Nat → Nat → Option Nat
  | [], i => match sub with
    | [] => some i
    | _ :: _ => none
  | b :: l, i => bif isPre sub (b :: l) then some i else findN sub l (i + 1)
def ixI : Option Nat → Int
  | none => -1
  | some i => Int.ofNat i
def nl (l : List UInt8) : List Nat := l.map (·.toNat)
theorem nats_nl (s : ByteArray) : nats s = nl s.data.toList := rfl
theorem nl_append (a b : List UInt8) : nl (a ++ b) = nl a ++ nl b := List.map_append
theorem nl_length (a : List UInt8) : (nl a).length = a.length := List.length_map _

theorem isPre_eq : ∀ a b : List UInt8, isPre (nl a) (nl b) = a.isPrefixOf b
  | [], b => by cases b <;> rfl
  | _ :: _, [] => rfl
  | x :: a, y :: b => by
    show (bif Nat.beq x.toNat y.toNat then isPre (nl a) (nl b) else false) = (x == y && a.isPrefixOf b)
    rw [isPre_eq a b]
    have : Nat.beq x.toNat y.toNat = (x == y) := by
      rw [Bool.eq_iff_iff]
      constructor
      · intro h; exact beq_iff_eq.2 (UInt8.toNat_inj.1 (Nat.eq_of_beq_eq_true h))
      · intro h; rw [beq_iff_eq.1 h]; simp
    rw [this]
    cases (x == y) <;> rfl

theorem findN_eq (sub : List UInt8) : ∀ (l : List UInt8) (i : Nat), (Lib.index l sub = -1 → findN (nl sub) (nl l) i = none) ∧ (∀ k : Nat, Lib.index l sub = k → findN (nl sub) (nl l) i = some (i + k))
  | [], i => by
    cases sub with
    | nil =>
      refine ⟨fun h => (by cases h), fun k h => ?_⟩
      have h : (0 : Int) = k := h
      have hk : k = 0 := by omega
      subst hk; rfl
    | cons x sub =>
      refine ⟨fun _ => rfl, fun k h => ?_⟩
      have h : (-1 : Int) = k := h
      omega
  | b :: l, i => by
    obtain ⟨ih1, ih2⟩ := findN_eq sub l (i + 1)
    have hge := Lib.index_ge l sub
    have e : findN (nl sub) (nl (b :: l)) i = bif sub.isPrefixOf (b :: l) then some i else findN (nl sub) (nl l) (i + 1) := by
      show (bif isPre (nl sub) (nl (b :: l)) then some i else findN (nl sub) (nl l) (i + 1)) = _
      rw [isPre_eq]
    have e2 : Lib.index (b :: l) sub = if sub.isPrefixOf (b :: l) then 0 else if Lib.index l sub == -1 then -1 else Lib.index l sub + 1 := rfl
    rw [e, e2]
    cases sub.isPrefixOf (b :: l) with
    | true =>
      refine ⟨fun h => (by simp at h), fun k h => ?_⟩
      have hk : k = 0 := by simp at h; omega
      subst hk; rfl
    | false =>
      by_cases hm : Lib.index l sub = -1
      · have hb : (Lib.index l sub == -1) = true := beq_iff_eq.2 hm
        simp only [hb, if_true, Bool.false_eq_true, if_false, cond_false]
        exact ⟨fun _ => ih1 hm, fun k h => by omega⟩
      · have hb : (Lib.index l sub == -1) = false := by
          cases h : (Lib.index l sub == -1) with
          | false => rfl
          | true => exact absurd (beq_iff_eq.1 h) hm
        simp only [hb, Bool.false_eq_true, if_false, cond_false]
        refine ⟨fun h => by omega, fun k h => ?_⟩
        obtain ⟨j, rfl⟩ : ∃ j, k = j + 1 := ⟨k - 1, by omega⟩
        rw [ih2 j (by omega)]
        congr 1; omega

theorem findN_index (sub l : List UInt8) : ixI (findN (nl sub) (nl l) 0) = Lib.index l sub := by
  obtain ⟨h1, h2⟩ := findN_eq sub l 0
  have hge := Lib.index_ge l sub
  by_cases hm : Lib.index l sub = -1
  · rw [h1 hm, hm]; rfl
  · rw [h2 (Lib.index l sub).toNat (by omega)]
    show Int.ofNat (0 + _) = _
    rw [Nat.zero_add]
    have : ((Lib.index l sub).toNat : Int) = Lib.index l sub := by omega
    exact this

theorem findN_none {sub l : List UInt8} (h : findN (nl sub) (nl l) 0 = none) : Lib.index l sub = -1 := by
  have := findN_index sub l
  rw [h] at this; exact this.symm
theorem findN_some {sub l : List UInt8} {i : Nat} (h : findN (nl sub) (nl l) 0 = some i) : Lib.index l sub = i := by
  have := findN_index sub l
  rw [h] at this; exact this.symm

def splitN (sep : List Nat) : Nat → List Nat → List (List Nat)
  | 0, s => [s]
  | k + 1, s => match findN sep s 0 with
    | none => [s]
    | some i => s.take i :: splitN sep k (s.drop (i + sep.length))

theorem splitN_eq (sep : List UInt8) : ∀ (k : Nat) (s : List UInt8), splitN (nl sep) k (nl s) = (Lib.splitK sep 0 k s).map nl
  | 0, s => rfl
  | k + 1, s => by
    unfold splitN Lib.splitK
    cases h : findN (nl sep) (nl s) 0 with
    | none =>
      have := findN_none h
      simp [this]
    | some i =>
      have hi := findN_some h
      have hb : ¬ (Lib.index s sep == -1) = true := fun e => by have := beq_iff_eq.1 e; omega
      rw [if_neg hb, hi]
      show (nl s).take i :: splitN (nl sep) k ((nl s).drop (i + (nl sep).length)) = _
      have e1 : (nl s).take i = nl (s.take i) := by simp [nl, List.map_take]
      have e2 : (nl s).drop (i + (nl sep).length) = nl (s.drop (i + sep.length)) := by simp [nl, List.map_drop]
      rw [e1, e2, splitN_eq sep k]
      simp

def countN (sep : List Nat) : Nat → List Nat → Nat
  | 0, _ => 0
  | f + 1, s => match findN sep s 0 with
    | none => 0
    | some i => Nat.succ (countN sep f (s.drop (i + sep.length)))
theorem countN_eq (sep : List UInt8) : ∀ (f : Nat) (s : List UInt8), countN (nl sep) f (nl s) = Lib.countFrom sep f s
  | 0, s => rfl
  | f + 1, s => by
    unfold countN Lib.countFrom
    cases h : findN (nl sep) (nl s) 0 with
    | none => have := findN_none h; simp [this]
    | some i =>
      have hi := findN_some h
      have hb : ¬ (Lib.index s sep == -1) = true := fun e => by have := beq_iff_eq.1 e; omega
      rw [if_neg hb, hi]
      have e2 : (nl s).drop (i + (nl sep).length) = nl (s.drop (i + sep.length)) := by simp [nl, List.map_drop]
      show Nat.succ (countN (nl sep) f ((nl s).drop (i + (nl sep).length))) = _
      rw [e2, countN_eq sep f]
      have : (Int.toNat (i : Int)) = i := rfl
      rw [this]; omega

/-- decimal digits -/
def decN : Nat → Nat → List Nat → List Nat
  | 0, _, acc => acc
  | f + 1, n, acc => bif Nat.blt n 10 then (48 + n) :: acc else decN f (n / 10) ((48 + n % 10) :: acc)
theorem decN_eq : ∀ (f n : Nat) (acc : List Nat), n < 10 ^ f → 0 < f → decN f n acc = nl (Lib.decDigits n) ++ acc
  | 0, _, _, _, h => absurd h (Nat.lt_irrefl 0)
  | f + 1, n, acc, h, _ => by
    unfold decN
    rw [Lib.decDigits]
    by_cases h10 : n < 10
    · have hb : Nat.blt n 10 = true := Nat.ble_eq_true_of_le h10
      rw [hb, dif_pos h10]
      have e : (UInt8.ofNat (48 + n)).toNat = 48 + n := by
        rw [UInt8.toNat_ofNat']; omega
      show (48 + n) :: acc = (UInt8.ofNat (48 + n)).toNat :: acc
      rw [e]
    · have hb : Nat.blt n 10 = false := by
        cases e : Nat.blt n 10 with
        | false => rfl
        | true => exact absurd (Nat.le_of_ble_eq_true e) h10
      rw [hb, dif_neg h10]
      show decN f (n / 10) ((48 + n % 10) :: acc) = _
      have hf : 0 < f := by
        rcases Nat.eq_zero_or_pos f with h0 | h0
        · subst h0; simp at h; omega
        · exact h0
      rw [decN_eq f (n / 10) _ (by rw [Nat.pow_succ] at h; omega) hf, nl_append, List.append_assoc]
      have e : (UInt8.ofNat (48 + n % 10)).toNat = 48 + n % 10 := by
        rw [UInt8.toNat_ofNat']; omega
      show _ = nl (Lib.decDigits (n / 10)) ++ ((UInt8.ofNat (48 + n % 10)).toNat :: acc)
      rw [e]

def itoaN : Int → List Nat
  | .ofNat n => decN 20 n []
  | .negSucc n => 45 :: decN 20 (Nat.succ n) []
theorem itoaN_eq (n : Int) (h0 : -9223372036854775808 ≤ n) (h1 : n ≤ 9223372036854775807) : itoaN n = nl (Lib.itoa n) := by
  unfold Lib.itoa
  cases n with
  | ofNat n =>
    have h1 : (n : Int) ≤ 9223372036854775807 := h1
    rw [if_neg (by show ¬ ((n : Int) < 0); omega)]
    show decN 20 n [] = _
    rw [decN_eq 20 n [] (by omega) (by omega), List.append_nil]
    rfl
  | negSucc n =>
    rw [if_pos (Int.negSucc_lt_zero n)]
    show 45 :: decN 20 (n + 1) [] = _
    have h0 : -9223372036854775808 ≤ Int.negSucc n := h0
    rw [decN_eq 20 (n + 1) [] (by omega) (by omega), List.append_nil]
    rfl

/-! ## calls by contract -/
section
variable {P : Program} {ck : Chk}

theorem R.below {μ : Mu} {h : AH} {w w' : World} (r : R ck μ h w) (b : Below w.heap.size w w') : R ck μ h w' ∧ Ext μ h w μ h w' := by
  constructor
  · exact ⟨r.live, fun x blk L h1 h2 => (r.rel x blk L h1 h2).keep (Mu.le_refl _) (b.block _ (r.dom x L h2).2), fun x L e => ⟨(r.dom x L e).1, Nat.lt_of_lt_of_le (r.dom x L e).2 b.size⟩, r.sep, r.anc,
      fun q c e => let ⟨⟨t, f, f1⟩, f2⟩ := r.fix q c e; ⟨⟨t, f, by rw [b.block q (heap_lt f1)]; exact f1⟩, f2⟩⟩
  · exact ⟨Mu.le_refl _, fun _ _ e => ⟨e, rfl⟩, Nat.le_refl _, b.size, fun q hq _ => b.block q hq, fun x blk L h1 h2 h3 _ => ⟨x, blk, L, h1, h2, h3, rfl⟩, fun _ _ e => .inl e,
      fun q l hq => ⟨l, by rw [b.block q (heap_lt hq)]; exact hq⟩, ⟨b.tape, b.os, b.output⟩⟩

def Enters (P : Program) (f : Nat) : Prop := ∃ fn b, P.funcs[f]? = some fn ∧ (fn.name == "runtime.NumGoroutine") = false ∧ fn.body = some b
theorem Enters.run {f : Nat} (e : Enters P f) (args : Array Value) (w : World) : (callFunc f args).run P w = .ok (.enter f args) w := by
  obtain ⟨fn, b, h1, h2, h3⟩ := e
  have hn : ¬ (fn.name = "runtime.NumGoroutine") := by simpa using h2
  simp [callFunc, h1, hn, h3]

theorem callN_of {f : Nat} (en : Enters P f) {rargs : List Value} {μ : Mu} {h : AH} {w : World} {v : AV} {h' : AH} {Q : Ending → World → Prop} (c : Calls P f ⟨rargs⟩ w Q)
    (hQ : ∀ e w', Q e w' → ∃ rv μ', e = .returned rv ∧ VR μ' v rv ∧ R ck μ' h' w' ∧ Ext μ h w μ' h' w') : CallN P ck f rargs μ h w v h' := by
  refine .inr ⟨en.run _ _, fun cs => ?_⟩
  obtain ⟨e, w', fr, q, k1, k2, k3⟩ := c cs
  obtain ⟨rv, μ', rfl, g1, g2, g3⟩ := hQ e w' q
  exact ⟨rv, w', μ', fr, k1, k3, k2, g1, g2, g3⟩

theorem drewN_below (w : World) (n : Nat) : Below w.heap.size w (w.drewN n) := ⟨rfl, rfl, rfl, Nat.le_refl _, fun _ _ => rfl⟩
theorem grow_below (w : World) (k : Nat) (os : Array Obj) : Below w.heap.size w (Sort.grow (w.drewN k) os) :=
  ⟨rfl, rfl, rfl, by simp [Sort.grow, World.drewN], fun i hi => by simp [Sort.grow, World.drewN, Array.getElem?_append_left hi]⟩

/-- a call that gives back a text, a number, a truth -/
theorem callN_below {f : Nat} (en : Enters P f) {rargs : List Value} {μ : Mu} {h : AH} {w : World} (r : R ck μ h w) {v : AV} {rv : Value} (hv : VR μ v rv) {Q : Ending → World → Prop} (c : Calls P f ⟨rargs⟩ w Q)
    (hQ : ∀ e w', Q e w' → e = .returned rv ∧ Below w.heap.size w w') : CallN P ck f rargs μ h w v h := by
  refine callN_of en c fun e w' q => ?_
  obtain ⟨g1, g2⟩ := hQ e w' q
  obtain ⟨r1, x1⟩ := r.below g2
  exact ⟨rv, μ, g1, hv, r1, x1⟩
theorem callN_same {f : Nat} (en : Enters P f) {rargs : List Value} {μ : Mu} {h : AH} {w : World} (r : R ck μ h w) {v : AV} {rv : Value} (hv : VR μ v rv) (c : Calls P f ⟨rargs⟩ w fun e w' => e = .returned rv ∧ w' = w) : CallN P ck f rargs μ h w v h :=
  callN_below en r hv c fun e w' q => ⟨q.1, by rw [q.2]; exact Below.refl _ _⟩

/-- what a spec of a function says -/
def SpecF (P : Program) (ck : Chk) (f : Nat) (s : Spec) : Prop := ∀ args h v h', s args h = some (v, h') → ∀ μ w rargs, R ck μ h w → VRs μ args rargs → CallN P ck f rargs μ h w v h'

theorem specOk_nil : SpecOk P ck .e := fun f s e => by rw [T.get_e] at e; cases e
theorem specOk_set {sp : T Spec} {f : Nat} {s : Spec} (a : SpecOk P ck sp) (b : SpecF P ck f s) : SpecOk P ck (T.set sp f s) := by
  intro g t e
  rw [T.get_set] at e
  split at e
  · rename_i hg
    cases e
    subst hg
    exact b
  · exact a g t e

theorem vrstr {μ : Mu} {s : List Nat} {rv : Value} (h : VR μ (.str s) rv) : ∃ b : ByteArray, rv = .string b ∧ s = nl b.data.toList := by
  cases h with
  | str b => exact ⟨b, rfl, rfl⟩
theorem vrint {μ : Mu} {k : IntKind} {n : Int} {rv : Value} (h : VR μ (.int k n) rv) : rv = .int k n := by
  cases h; rfl
theorem str_vr {μ : Mu} (l : List UInt8) : VR μ (.str (nl l)) (.string ⟨l.toArray⟩) := VR.str (μ := μ) ⟨l.toArray⟩
theorem vrs2 {μ : Mu} {a b : AV} {rargs : List Value} (h : VRs μ [a, b] rargs) : ∃ x y, rargs = [x, y] ∧ VR μ a x ∧ VR μ b y := by
  cases h with
  | cons h1 h2 => cases h2 with
    | cons h3 h4 => cases h4; exact ⟨_, _, rfl, h1, h3⟩
theorem vrs1 {μ : Mu} {a : AV} {rargs : List Value} (h : VRs μ [a] rargs) : ∃ x, rargs = [x] ∧ VR μ a x := by
  cases h with
  | cons h1 h2 => cases h2; exact ⟨_, rfl, h1⟩
theorem vrs3 {μ : Mu} {a b c : AV} {rargs : List Value} (h : VRs μ [a, b, c] rargs) : ∃ x y z, rargs = [x, y, z] ∧ VR μ a x ∧ VR μ b y ∧ VR μ c z := by
  cases h with
  | cons h1 h2 => obtain ⟨y, z, e, h3, h4⟩ := vrs2 h2; subst e; exact ⟨_, _, _, rfl, h1, h3, h4⟩

/-- texts that are short -/
noncomputable def shortN (s : List Nat) : Bool := Nat.blt (llen s) 4294967281
theorem shortN_ok {b : ByteArray} (h : shortN (nl b.data.toList) = true) : b.size < 4294967281 := by
  have := Nat.le_of_ble_eq_true h
  rw [llen_eq, nl_length] at this
  exact this

/-- MaxLen's cell holds some number, for good -/
def MaxLen (ck : Chk) (g : Nat) : Prop := ∃ (m : Int) (c : Array Value), ck.fixed g = some c ∧ c[0]? = some (.int .i64 m)
theorem MaxLen.cell {g : Nat} (m : MaxLen ck g) {μ : Mu} {h : AH} {w : World} (r : R ck μ h w) : ∃ m : Int, w.cell? ⟨g, 0, none⟩ = some (.int .i64 m) := by
  obtain ⟨m, c, e, e2⟩ := m
  obtain ⟨⟨t, f, f1⟩, _⟩ := r.fix g _ e
  exact ⟨m, by simp [World.cell?, f1, e2]⟩

noncomputable def strArgs2 (K : List Nat → List Nat → AH → Option (AV × AH)) : Spec := fun args h => match args with
  | [.str s, .str t] => bif shortN s then K s t h else none
  | _ => none
theorem strArgs2_some {K : List Nat → List Nat → AH → Option (AV × AH)} {args : List AV} {h : AH} {p : AV × AH} (e : strArgs2 K args h = some p) : ∃ s t, args = [.str s, .str t] ∧ shortN s = true ∧ K s t h = some p := by
  unfold strArgs2 at e
  split at e
  · rename_i s t
    cases hs : shortN s with
    | false => rw [hs] at e; cases e
    | true => rw [hs] at e; exact ⟨s, t, rfl, hs, e⟩
  · cases e

noncomputable def spIndex : Spec := strArgs2 fun s t h => some (.int .i64 (ixI (findN t s 0)), h)
theorem index_spec {f g : Nat} (en : Enters P f) (ml : MaxLen ck g) (c : ∀ (s sub : ByteArray) (m : Int) (w : World), s.size < 4294967281 → w.cell? ⟨g, 0, none⟩ = some (.int .i64 m) →
    Calls P f #[.string s, .string sub] w fun e w' => e = .returned (.int .i64 (Lib.index s.data.toList sub.data.toList)) ∧ w' = w) : SpecF P ck f spIndex := by
  intro args h v h' e μ w rargs r hv
  obtain ⟨s, t, rfl, h1, h2⟩ := strArgs2_some e
  obtain ⟨x, y, rfl, v1, v2⟩ := vrs2 hv
  obtain ⟨a, rfl, rfl⟩ := vrstr v1
  obtain ⟨b, rfl, rfl⟩ := vrstr v2
  injection h2 with h2
  injection h2 with h3 h4
  subst h3; subst h4
  obtain ⟨m, hm⟩ := ml.cell r
  rw [findN_index]
  exact callN_same en r (.int _ _) (c a b m w (shortN_ok h1) hm)

noncomputable def spContains : Spec := strArgs2 fun s t h => some (.bool (match findN t s 0 with | some _ => true | none => false), h)
theorem contains_spec {f g : Nat} (en : Enters P f) (ml : MaxLen ck g) (c : ∀ (s sub : ByteArray) (m : Int) (w : World), s.size < 4294967281 → w.cell? ⟨g, 0, none⟩ = some (.int .i64 m) →
    Calls P f #[.string s, .string sub] w fun e w' => e = .returned (.bool (Lib.contains s.data.toList sub.data.toList)) ∧ w' = w) : SpecF P ck f spContains := by
  intro args h v h' e μ w rargs r hv
  obtain ⟨s, t, rfl, h1, h2⟩ := strArgs2_some e
  obtain ⟨x, y, rfl, v1, v2⟩ := vrs2 hv
  obtain ⟨a, rfl, rfl⟩ := vrstr v1
  obtain ⟨b, rfl, rfl⟩ := vrstr v2
  injection h2 with h2
  injection h2 with h3 h4
  subst h3; subst h4
  obtain ⟨m, hm⟩ := ml.cell r
  refine callN_same en r ?_ (c a b m w (shortN_ok h1) hm)
  unfold Lib.contains
  cases hf : findN (nl b.data.toList) (nl a.data.toList) 0 with
  | none => rw [findN_none hf]; exact .bool _
  | some i =>
    rw [findN_some hf]
    have : decide (0 ≤ (i : Int)) = true := by simp
    rw [this]; exact .bool _

def cutN (s t : List Nat) : AV := match findN t s 0 with
  | none => .tup [.str s, .str [], .bool false]
  | some i => .tup [.str (s.take i), .str (s.drop (i + t.length)), .bool true]
noncomputable def spCut : Spec := strArgs2 fun s t h => some (cutN s t, h)
theorem cut_vr (μ : Mu) (s t : List UInt8) : VR μ (cutN (nl s) (nl t)) (.tuple #[.string ⟨(Lib.cut s t).1.toArray⟩, .string ⟨(Lib.cut s t).2.1.toArray⟩, .bool (Lib.cut s t).2.2]) := by
  unfold cutN Lib.cut
  cases hf : findN (nl t) (nl s) 0 with
  | none =>
    rw [findN_none hf, if_neg (by omega)]
    exact .tup (.cons (str_vr s) (.cons (str_vr []) (.cons (.bool _) .nil)))
  | some i =>
    rw [findN_some hf, if_pos (by omega)]
    have e1 : (nl s).take i = nl (s.take i) := by simp [nl, List.map_take]
    have e2 : (nl s).drop (i + (nl t).length) = nl (s.drop (i + t.length)) := by simp [nl, List.map_drop]
    show VR μ (.tup [.str ((nl s).take i), .str ((nl s).drop (i + (nl t).length)), .bool true]) _
    rw [e1, e2]
    exact .tup (.cons (str_vr _) (.cons (str_vr _) (.cons (.bool _) .nil)))
theorem cut_spec {f g : Nat} (en : Enters P f) (ml : MaxLen ck g) (c : ∀ (s sep : ByteArray) (m : Int) (w : World), s.size < 4294967281 → w.cell? ⟨g, 0, none⟩ = some (.int .i64 m) →
    Calls P f #[.string s, .string sep] w fun e w' => e = .returned (.tuple #[.string ⟨(Lib.cut s.data.toList sep.data.toList).1.toArray⟩, .string ⟨(Lib.cut s.data.toList sep.data.toList).2.1.toArray⟩, .bool (Lib.cut s.data.toList sep.data.toList).2.2]) ∧ ∃ n, w' = w.drewN n) : SpecF P ck f spCut := by
  intro args h v h' e μ w rargs r hv
  obtain ⟨s, t, rfl, h1, h2⟩ := strArgs2_some e
  obtain ⟨x, y, rfl, v1, v2⟩ := vrs2 hv
  obtain ⟨a, rfl, rfl⟩ := vrstr v1
  obtain ⟨b, rfl, rfl⟩ := vrstr v2
  injection h2 with h2
  injection h2 with h3 h4
  subst h3; subst h4
  obtain ⟨m, hm⟩ := ml.cell r
  refine callN_below en r (cut_vr μ _ _) (c a b m w (shortN_ok h1) hm) fun e w' q => ?_
  obtain ⟨q1, n, q2⟩ := q
  exact ⟨q1, by rw [q2]; exact drewN_below w n⟩

noncomputable def spCount : Spec := strArgs2 fun s t h => match t with
  | [] => none
  | _ :: _ => some (.int .i64 (Int.ofNat (countN t (Nat.succ s.length) s)), h)
theorem count_spec {f g : Nat} (en : Enters P f) (ml : MaxLen ck g) (c : ∀ (s sep : ByteArray) (m : Int) (w : World), s.size < 4294967281 → w.cell? ⟨g, 0, none⟩ = some (.int .i64 m) → 1 ≤ sep.size →
    Calls P f #[.string s, .string sep] w fun e w' => e = .returned (.int .i64 (Lib.countB s sep)) ∧ w' = w) : SpecF P ck f spCount := by
  intro args h v h' e μ w rargs r hv
  obtain ⟨s, t, rfl, h1, h2⟩ := strArgs2_some e
  obtain ⟨x, y, rfl, v1, v2⟩ := vrs2 hv
  obtain ⟨a, rfl, rfl⟩ := vrstr v1
  obtain ⟨b, rfl, rfl⟩ := vrstr v2
  have hb : 1 ≤ b.size := by
    cases hl : b.data.toList with
    | nil => rw [hl] at h2; cases h2
    | cons z l =>
      have : b.data.toList.length = b.size := rfl
      rw [hl] at this
      simp at this; omega
  have h2 : some (AV.int .i64 (Int.ofNat (countN (nl b.data.toList) (Nat.succ (nl a.data.toList).length) (nl a.data.toList))), h) = some (v, h') := by
    cases hl : b.data.toList with
    | nil => rw [hl] at h2; cases h2
    | cons z l => rw [hl] at h2; exact h2
  injection h2 with h2
  injection h2 with h3 h4
  subst h3; subst h4
  obtain ⟨m, hm⟩ := ml.cell r
  rw [countN_eq, nl_length]
  exact callN_same en r (.int _ _) (c a b m w (shortN_ok h1) hm hb)

noncomputable def spIndexByte : Spec := fun args h => match args with
  | [.str s, .int .u8 (.ofNat c)] => bif Nat.blt c 256 then some (.int .i64 (ixI (findN [c] s 0)), h) else none
  | _ => none
theorem indexByte_index (c : UInt8) : ∀ l : List UInt8, Lib.indexByte l c = Lib.index l [c]
  | [] => rfl
  | b :: l => by
    have e1 : Lib.indexByte (b :: l) c = if b == c then 0 else if Lib.indexByte l c == -1 then -1 else Lib.indexByte l c + 1 := rfl
    have e2 : Lib.index (b :: l) [c] = if [c].isPrefixOf (b :: l) then 0 else if Lib.index l [c] == -1 then -1 else Lib.index l [c] + 1 := rfl
    have e3 : [c].isPrefixOf (b :: l) = (b == c) := by
      simp [List.isPrefixOf]
      rw [Bool.eq_iff_iff, beq_iff_eq, beq_iff_eq]; exact eq_comm
    rw [e1, e2, e3, indexByte_index c l]
theorem indexByte_spec {f : Nat} (en : Enters P f) (c : ∀ (s : ByteArray) (c : Int) (w : World),
    Calls P f #[.string s, .int .u8 c] w fun e w' => e = .returned (.int .i64 (Lib.indexByte s.data.toList c.toNat.toUInt8)) ∧ w' = w) : SpecF P ck f spIndexByte := by
  intro args h v h' e μ w rargs r hv
  unfold spIndexByte at e
  split at e
  · rename_i s n
    cases hb : Nat.blt n 256 with
    | false => rw [hb] at e; cases e
    | true =>
      rw [hb] at e
      have hn : n < 256 := Nat.le_of_ble_eq_true hb
      obtain ⟨x, y, rfl, v1, v2⟩ := vrs2 hv
      obtain ⟨a, rfl, rfl⟩ := vrstr v1
      have := vrint v2; subst this
      have e : some (AV.int .i64 (ixI (findN [n] (nl a.data.toList) 0)), h) = some (v, h') := e
      injection e with e
      injection e with e1 e2
      subst e1; subst e2
      have hk := c a (.ofNat n) w
      have hu : ((Int.ofNat n).toNat.toUInt8).toNat = n := by
        show (UInt8.ofNat n).toNat = n
        rw [UInt8.toNat_ofNat']; omega
      have hl : [n] = nl [(Int.ofNat n).toNat.toUInt8] := by simp [nl]; omega
      rw [hl, findN_index, ← indexByte_index]
      exact callN_same en r (.int _ _) hk
  · cases e

noncomputable def spItoa : Spec := fun args h => match args with
  | [.int .i64 n] => bif Bool.and (ilt (-9223372036854775809) n) (ilt n 9223372036854775808) then some (.str (itoaN n), h) else none
  | _ => none
theorem itoa_spec {f g : Nat} {nm : String} {tab : Array Value} (en : Enters P f) (hg : P.globalNamed nm = some g) (hf : ck.fixed g = some tab) (c : ∀ (n : Int) (w : World), -9223372036854775808 ≤ n → n ≤ 9223372036854775807 → w.var? P nm = some tab →
    Calls P f #[.int .i64 n] w fun e w' => e = .returned (.string ⟨(Lib.itoa n).toArray⟩) ∧ ∃ k os, w' = Sort.grow (w.drewN k) os) : SpecF P ck f spItoa := by
  intro args h v h' e μ w rargs r hv
  unfold spItoa at e
  split at e
  · rename_i n
    cases hb : Bool.and (ilt (-9223372036854775809) n) (ilt n 9223372036854775808) with
    | false => rw [hb] at e; cases e
    | true =>
      rw [hb] at e
      obtain ⟨b1, b2⟩ := and2 hb
      rw [ilt_eq] at b1 b2
      have b1 := of_decide_eq_true b1
      have b2 := of_decide_eq_true b2
      obtain ⟨x, rfl, v1⟩ := vrs1 hv
      have := vrint v1; subst this
      have e : some (AV.str (itoaN n), h) = some (v, h') := e
      injection e with e
      injection e with e1 e2
      subst e1; subst e2
      obtain ⟨⟨t, f, f1⟩, _⟩ := r.fix g _ hf
      rw [itoaN_eq n (by omega) (by omega)]
      refine callN_below en r (str_vr _) (c n w (by omega) (by omega) (by simp [World.var?, hg, f1])) fun e w' q => ?_
      obtain ⟨q1, k, os, q2⟩ := q
      exact ⟨q1, by rw [q2]; exact grow_below w k os⟩
  · cases e
noncomputable def spFormat : Spec := fun args h => match args with
  | [.int .i64 n, .int .i64 10] => spItoa [.int .i64 n] h
  | _ => none
theorem format_spec {f g : Nat} {nm : String} {tab : Array Value} (en : Enters P f) (hg : P.globalNamed nm = some g) (hf : ck.fixed g = some tab) (c : ∀ (n : Int) (w : World), -9223372036854775808 ≤ n → n ≤ 9223372036854775807 → w.var? P nm = some tab →
    Calls P f #[.int .i64 n, .int .i64 10] w fun e w' => e = .returned (.string ⟨(Lib.itoa n).toArray⟩) ∧ ∃ k os, w' = Sort.grow (w.drewN k) os) : SpecF P ck f spFormat := by
  intro args h v h' e μ w rargs r hv
  unfold spFormat at e
  split at e
  · rename_i n
    unfold spItoa at e
    dsimp only at e
    cases hb : Bool.and (ilt (-9223372036854775809) n) (ilt n 9223372036854775808) with
    | false => rw [hb] at e; cases e
    | true =>
      rw [hb] at e
      obtain ⟨b1, b2⟩ := and2 hb
      rw [ilt_eq] at b1 b2
      have b1 := of_decide_eq_true b1
      have b2 := of_decide_eq_true b2
      obtain ⟨x, y, rfl, v1, v2⟩ := vrs2 hv
      have := vrint v1; subst this
      have := vrint v2; subst this
      have e : some (AV.str (itoaN n), h) = some (v, h') := e
      injection e with e
      injection e with e1 e2
      subst e1; subst e2
      obtain ⟨⟨t, f, f1⟩, _⟩ := r.fix g _ hf
      rw [itoaN_eq n (by omega) (by omega)]
      refine callN_below en r (str_vr _) (c n w (by omega) (by omega) (by simp [World.var?, hg, f1])) fun e w' q => ?_
      obtain ⟨q1, k, os, q2⟩ := q
      exact ⟨q1, by rw [q2]; exact grow_below w k os⟩
  · cases e

noncomputable def spSplit : Spec := strArgs2 fun s t h => match t with
  | [] => none
  | _ :: _ => fN (countN t (Nat.succ s.length) s) fun k => fN h.next fun b => some (.slice b 0 (Nat.succ k) (Nat.succ k) 1 true, ⟨Nat.succ b, T.set h.t b (.row (lmap AV.str (splitN t k s)) (.own []))⟩)
theorem splitK_length (sep : List UInt8) : ∀ (k : Nat) (s : List UInt8), (Lib.splitK sep 0 k s).length ≤ k + 1
  | 0, s => Nat.le_refl _
  | k + 1, s => by
    unfold Lib.splitK
    split
    · simp
    · have := splitK_length sep k (s.drop ((Lib.index s sep).toNat + sep.length))
      simp only [List.length_cons]; omega
end
end LA

namespace LA
open Go hiding Loc
open Go.RowKit

section
variable {P : Program} {ck : Chk}

def ln (s : List Nat) : List UInt8 := s.map UInt8.ofNat
theorem ln_nl (l : List UInt8) : ln (nl l) = l := by
  unfold ln nl
  rw [List.map_map]
  conv => rhs; rw [← List.map_id l]
  exact List.map_congr_left fun x _ => UInt8.ofNat_toNat

def numEnd (T : Nat) (sat : Int) (h : AH) : Lib.NumEnd Int → Option (AV × AH)
  | .ok v => some (.tup [.int .i64 v, .nili], h)
  | Lib.NumEnd.syntax => some (.tup [.int .i64 0, .iface T .junk], h)
  | .range => some (.tup [.int .i64 sat, .iface T .junk], h)

/-- how a text is read as a number -/
def NumC (_P : Program) (T : Nat) (call : ByteArray → World → (Ending → World → Prop) → Prop) (gs gr : Nat) : Prop :=
  (∀ (s : ByteArray) (v : Int) (w : World), s.size ≤ 9223372036854775806 → Lib.parseIntB 64 s.data.toList = .ok v → call s w fun e w' => e = .returned (.tuple #[.int .i64 v, .nilIface]) ∧ (w' = w ∨ ∃ e t, w' = Lib.bytesWorld w e t)) ∧
  (∀ (s : ByteArray) (ev : Value) (w : World), s.size ≤ 281474976710656 → Lib.parseIntB 64 s.data.toList = Lib.NumEnd.syntax → w.cell? ⟨gs, 0, none⟩ = some ev → (∃ te pe, ev = .iface te pe) → call s w fun e w' => ∃ N, e = .returned (.tuple #[.int .i64 0, .iface T (.pointer (some ⟨N, 0, none⟩))]) ∧ Below w.heap.size w w') ∧
  (∀ (s : ByteArray) (ev : Value) (w : World), s.size ≤ 281474976710656 → Lib.parseIntB 64 s.data.toList = .range → w.cell? ⟨gr, 0, none⟩ = some ev → (∃ te pe, ev = .iface te pe) → call s w fun e w' => ∃ N, e = .returned (.tuple #[.int .i64 (Lib.intSat 64 s.data.toList), .iface T (.pointer (some ⟨N, 0, none⟩))]) ∧ Below w.heap.size w w')

/-- an error's cell, for good -/
def ErrCell (ck : Chk) (g : Nat) : Prop := ∃ te pe, ck.fixed g = some #[.iface te pe]

theorem num_callN {T gs gr f : Nat} (en : Enters P f) (es : ErrCell ck gs) (er : ErrCell ck gr) {mk : Value → List Value} (c : NumC P T (fun s w Q => Calls P f ⟨mk (.string s)⟩ w Q) gs gr) {a : ByteArray} (hs : shortN (nl a.data.toList) = true) {μ : Mu} {h h' : AH} {w : World} (r : R ck μ h w) {v : AV}
    (e : numEnd T (Lib.intSat 64 (ln (nl a.data.toList))) h (Lib.parseIntB 64 (ln (nl a.data.toList))) = some (v, h')) : CallN P ck f (mk (.string a)) μ h w v h' := by
  obtain ⟨c1, c2, c3⟩ := c
  have hsz := shortN_ok hs
  rw [ln_nl] at e
  cases hp : Lib.parseIntB 64 a.data.toList with
  | ok n =>
    rw [hp] at e; cases e
    refine callN_below en r (.tup (.cons (.int _ _) (.cons .nili .nil))) (c1 a n w (by omega) hp) fun e w' q => ?_
    obtain ⟨q1, q2⟩ := q
    refine ⟨q1, ?_⟩
    rcases q2 with q2 | ⟨ty, t, q2⟩
    · rw [q2]; exact Below.refl _ _
    · rw [q2]; exact Lib.bytesWorld_below w ty t
  | range =>
    rw [hp] at e; cases e
    obtain ⟨te, pe, hf⟩ := er
    obtain ⟨⟨t, f', f1⟩, _⟩ := r.fix gr _ hf
    refine callN_of en (c3 a (.iface te pe) w (by omega) hp (by simp [World.cell?, f1]) ⟨te, pe, rfl⟩) fun e w' q => ?_
    obtain ⟨N, q1, q2⟩ := q
    obtain ⟨r1, x1⟩ := r.below q2
    exact ⟨_, μ, q1, .tup (.cons (.int _ _) (.cons (.iface T (.junk _)) .nil)), r1, x1⟩
  | _ =>
    rw [hp] at e; cases e
    obtain ⟨te, pe, hf⟩ := es
    obtain ⟨⟨t, f', f1⟩, _⟩ := r.fix gs _ hf
    refine callN_of en (c2 a (.iface te pe) w (by omega) hp (by simp [World.cell?, f1]) ⟨te, pe, rfl⟩) fun e w' q => ?_
    obtain ⟨N, q1, q2⟩ := q
    obtain ⟨r1, x1⟩ := r.below q2
    exact ⟨_, μ, q1, .tup (.cons (.int _ _) (.cons (.iface T (.junk _)) .nil)), r1, x1⟩

noncomputable def spParse (T : Nat) : Spec := fun args h => match args with
  | [.str s, .int .i64 (.ofNat n), .int .i64 (.ofNat m)] => bif Bool.and (shortN s) (Bool.and (Nat.beq n 10) (Nat.beq m 64)) then numEnd T (Lib.intSat 64 (ln s)) h (Lib.parseIntB 64 (ln s)) else none
  | _ => none
theorem parse_spec {T gs gr f : Nat} (en : Enters P f) (es : ErrCell ck gs) (er : ErrCell ck gr) (c : NumC P T (fun s w Q => Calls P f #[.string s, .int .i64 10, .int .i64 64] w Q) gs gr) : SpecF P ck f (spParse T) := by
  intro args h v h' e μ w rargs r hv
  unfold spParse at e
  split at e
  · rename_i s n m
    cases hb : Bool.and (shortN s) (Bool.and (Nat.beq n 10) (Nat.beq m 64)) with
    | false => rw [hb] at e; cases e
    | true =>
      rw [hb] at e
      obtain ⟨b1, b2⟩ := and2 hb
      obtain ⟨b2, b3⟩ := and2 b2
      have := nbeq_ok b2; subst this
      have := nbeq_ok b3; subst this
      obtain ⟨x, y, z, rfl, v1, v2, v3⟩ := vrs3 hv
      obtain ⟨a, rfl, rfl⟩ := vrstr v1
      have := vrint v2; subst this
      have := vrint v3; subst this
      exact num_callN (mk := fun s => [s, .int .i64 10, .int .i64 64]) en es er c b1 r e
  · cases e
noncomputable def spAtoi (T : Nat) : Spec := fun args h => match args with
  | [.str s] => bif shortN s then numEnd T (Lib.intSat 64 (ln s)) h (Lib.parseIntB 64 (ln s)) else none
  | _ => none
theorem atoi_spec {T gs gr f : Nat} (en : Enters P f) (es : ErrCell ck gs) (er : ErrCell ck gr) (c : NumC P T (fun s w Q => Calls P f #[.string s] w Q) gs gr) : SpecF P ck f (spAtoi T) := by
  intro args h v h' e μ w rargs r hv
  unfold spAtoi at e
  split at e
  · rename_i s
    cases hb : shortN s with
    | false => rw [hb] at e; cases e
    | true =>
      rw [hb] at e
      obtain ⟨x, rfl, v1⟩ := vrs1 hv
      obtain ⟨a, rfl, rfl⟩ := vrstr v1
      exact num_callN (mk := fun s => [s]) en es er c hb r e
  · cases e

/-! ## Join -/
def joinN (sep : List Nat) (xs : List (List Nat)) : List Nat := (xs.intersperse sep).flatten
theorem joinN_eq (sep : List UInt8) (xs : List (List UInt8)) : joinN (nl sep) (xs.map nl) = nl (Lib.join xs sep) := by
  unfold joinN Lib.join List.intercalate
  have : ∀ xs : List (List UInt8), (xs.map nl).intersperse (nl sep) = (xs.intersperse sep).map nl := by
    intro xs
    induction xs with
    | nil => rfl
    | cons x xs ih =>
      cases xs with
      | nil => rfl
      | cons y ys =>
        have h1 : (List.map nl (x :: y :: ys)).intersperse (nl sep) = nl x :: nl sep :: (List.map nl (y :: ys)).intersperse (nl sep) := rfl
        have h2 : (x :: y :: ys).intersperse sep = x :: sep :: (y :: ys).intersperse sep := rfl
        rw [h1, h2, ih]; rfl
  rw [this]
  unfold nl
  rw [List.map_flatten]
def strOf : AV → Option (List Nat)
  | .str s => some s
  | _ => none
noncomputable def spJoin : Spec := fun args h => match args with
  | [.nils, .str _] => some (.str [], h)
  | [.slice b o len _ sz _, .str sep] => bif Nat.beq sz 1 then asRow (T.get h.t b) fun cs _ => ob (ltake (ldrop cs o) len) fun l => ob (lmapO strOf l) fun xs => bif Bool.and (Nat.blt len 1048576) (Nat.blt (llen (joinN sep xs)) 1048576) then some (.str (joinN sep xs), h) else none else none
  | _ => none

theorem strs_real {μ : Mu} : ∀ {l : List AV} {rl : List Value} {xs : List (List Nat)}, VRs μ l rl → lmapO strOf l = some xs → ∃ bs : List ByteArray, rl = bs.map Value.string ∧ xs = bs.map fun b => nl b.data.toList
  | [], _, xs, .nil, e => by cases e; exact ⟨[], rfl, rfl⟩
  | v :: l, _, xs, .cons h1 h2, e => by
    obtain ⟨y, e1, e2⟩ := ob_some (show ob (strOf v) (fun y => ob (lmapO strOf l) fun ys => some (y :: ys)) = some xs from e)
    obtain ⟨ys, e3, e4⟩ := ob_some e2
    cases e4
    cases v with
    | str s =>
      cases e1
      obtain ⟨a, rfl, rfl⟩ := vrstr h1
      obtain ⟨bs, rfl, rfl⟩ := strs_real h2 e3
      exact ⟨a :: bs, rfl, rfl⟩
    | _ => cases e1

theorem join_spec {f : Nat} (en : Enters P f) (c0 : ∀ (a : Option Addr) (c : Nat) (sep : ByteArray) (w : World), Calls P f #[.slice a 0 c, .string sep] w fun e w' => e = .returned (.string ⟨#[]⟩) ∧ w' = w)
    (c1 : ∀ (bk o c : Nat) (xs : List ByteArray) (sep : ByteArray) (w : World), (∀ (j : Nat) x, xs[j]? = some x → w.cell? ⟨bk, o + j, none⟩ = some (.string x)) → bk < w.heap.size → xs.length ≤ 140737488355328 → xs.length ≤ c → (Lib.join (xs.map (·.data.toList)) sep.data.toList).length ≤ 140737488355328 →
      Calls P f #[.slice (some ⟨bk, o, none⟩) xs.length c, .string sep] w fun e w' => e = .returned (.string ⟨(Lib.join (xs.map (·.data.toList)) sep.data.toList).toArray⟩) ∧ Below w.heap.size w w') : SpecF P ck f spJoin := by
  intro args h v h' e μ w rargs r hv
  unfold spJoin at e
  split at e
  · obtain ⟨x, y, rfl, v1, v2⟩ := vrs2 hv
    obtain ⟨a, rfl, rfl⟩ := vrstr v2
    cases e
    cases v1
    exact callN_same en r (str_vr []) (c0 none 0 a w)
  · rename_i b o len cap sz ex sep
    cases hb : Nat.beq sz 1 with
    | false => rw [hb] at e; cases e
    | true =>
      rw [hb] at e
      have := nbeq_ok hb; subst this
      obtain ⟨cs, m, h1, h2⟩ := asRow_some (show asRow (T.get h.t b) _ = some (v, h') from e)
      obtain ⟨l, h3, h4⟩ := ob_some h2
      obtain ⟨xs, h5, h6⟩ := ob_some h4
      cases hl : Bool.and (Nat.blt len 1048576) (Nat.blt (llen (joinN sep xs)) 1048576) with
      | false => rw [hl] at h6; cases h6
      | true =>
        rw [hl] at h6
        cases h6
        obtain ⟨l1, l2⟩ := and2 hl
        have l1 : len < 1048576 := Nat.le_of_ble_eq_true l1
        have l2 : llen (joinN sep xs) < 1048576 := Nat.le_of_ble_eq_true l2
        rw [llen_eq] at l2
        obtain ⟨k1, k2⟩ := ltake_some _ _ _ h3
        rw [ldrop_eq] at k1 k2
        obtain ⟨x, y, rfl, v1, v2⟩ := vrs2 hv
        obtain ⟨a, rfl, rfl⟩ := vrstr v2
        cases v1 with
        | sliceE o sz ex adr hL =>
          rw [List.take_zero] at k1
          subst k1
          cases h5
          exact callN_same en r (str_vr []) (c0 (some adr) 0 a w)
        | @slice _ L _ _ _ _ _ rcap hL q1 q2 q3 q4 =>
          obtain ⟨c, ty, fr, g1, g2, g3, g4, _⟩ := r.rel b _ L h1 hL
          have hlen : l.length = len := by
            have hk : len ≤ cs.length - o := by simpa using k2
            rw [k1]; simp; omega
          obtain ⟨rl, hrl⟩ : ∃ rl : List Value, VRs μ l rl ∧ ∀ (j : Nat) (v : Value), rl[j]? = some v → c[L.off + o + j]? = some v := by
            refine ⟨(c.toList.drop (L.off + o)).take len, VRs.of_get ?_ ?_, fun j v hj => ?_⟩
            · have hk : len ≤ cs.length - o := by simpa using k2
              have : cs.length ≤ L.size - L.off := by omega
              simp [hlen]
              omega
            · intro i u hi
              have hi2 := hi
              rw [k1, List.getElem?_take] at hi2
              split at hi2
              · rename_i hlt
                rw [List.getElem?_drop] at hi2
                obtain ⟨rv, p1, p2⟩ := g4 (o + i) u hi2
                refine ⟨rv, ?_, p2⟩
                rw [List.getElem?_take, if_pos hlt, List.getElem?_drop, Array.getElem?_toList, Nat.add_assoc]
                exact p1
              · cases hi2
            · rw [List.getElem?_take] at hj
              split at hj
              · rw [List.getElem?_drop, Array.getElem?_toList] at hj; exact hj
              · cases hj
          obtain ⟨hrl1, hrl2⟩ := hrl
          obtain ⟨bs, e1, e2⟩ := strs_real hrl1 h5
          subst e1; subst e2
          have hbl : bs.length = len := by
            have := hrl1.length
            rw [List.length_map] at this
            rw [this, hlen]
          have hj := joinN_eq a.data.toList (bs.map (·.data.toList))
          rw [List.map_map] at hj
          have hj' : joinN (nl a.data.toList) (bs.map fun b => nl b.data.toList) = nl (Lib.join (bs.map (·.data.toList)) a.data.toList) := hj
          rw [hj'] at l2 ⊢
          rw [nl_length] at l2
          have hc := c1 L.rb (L.off + o) rcap bs a w (fun j x hx => by
            have := hrl2 j (.string x) (by rw [List.getElem?_map, hx]; rfl)
            simp [World.cell?, g1, this]) (r.dom b L hL).2 (by omega) (by omega) (by omega)
          rw [hbl] at hc
          exact callN_below en r (str_vr _) hc fun e w' q => q
  · cases e
end
end LA

namespace LA
open Go hiding Loc
open Go.RowKit

section
variable {P : Program} {ck : Chk}

/-- all that A's soundness asks -/
structure Base (P : Program) (ck : Chk) (E : Env) (sp : T Spec) : Prop where
  ok : EnvOk P E
  fo : FnsOk P ck E
  so : SpecOk P ck sp
  dr : DrawOk P ck E

theorem Base.set {E : Env} {sp : T Spec} (b : Base P ck E sp) {f : Nat} {s : Spec} (h : SpecF P ck f s) : Base P ck E (T.set sp f s) := ⟨b.ok, b.fo, specOk_set b.so h, b.dr⟩

def noMu : Mu := fun _ => none
def noH : AH := ⟨0, .e⟩

/-- the fixed blocks lie in a world -/
def FixIn (ck : Chk) (w : World) : Prop := ∀ rb c, ck.fixed rb = some c → ∃ t f, w.heap[rb]? = some (.cells c t f)

theorem R.none {w : World} (hf : FixIn ck w) : R ck noMu noH w where
  live b blk e := by rw [show T.get noH.t b = Option.none from T.get_e b] at e; cases e
  rel b blk L e := by rw [show T.get noH.t b = Option.none from T.get_e b] at e; cases e
  dom b L e := by cases e
  sep b1 b2 blk1 blk2 L1 L2 _ e := by rw [show T.get noH.t b1 = Option.none from T.get_e b1] at e; cases e
  anc b cs l L e := by rw [show T.get noH.t b = Option.none from T.get_e b] at e; cases e
  fix rb c e := ⟨hf rb c e, fun b L m => by cases m⟩
theorem R.fixIn {μ : Mu} {h : AH} {w : World} (r : R ck μ h w) : FixIn ck w := fun rb c e => (r.fix rb c e).1

theorem Ext.below {μ' : Mu} {h' : AH} {w w' : World} (x : Ext noMu noH w μ' h' w') : Below w.heap.size w w' :=
  ⟨x.env.2.1, x.env.1, x.env.2.2, x.size, fun k hk => x.keep k hk fun b blk L e => by rw [show T.get noH.t b = Option.none from T.get_e b] at e; cases e⟩

/-- arguments and results that lead to no memory -/
def flat : AV → Bool
  | .bool _ => true
  | .int _ _ => true
  | .str _ => true
  | .ab .. => true
  | .nilp => true
  | .nils => true
  | .nilm => true
  | .nilf => true
  | .nili => true
  | _ => false
theorem flat_vr {μ μ' : Mu} {v : AV} {rv : Value} (hf : flat v = true) (h : VR μ v rv) : VR μ' v rv := by
  cases h with
  | bool b => exact .bool b
  | int k n => exact .int k n
  | str s => exact .str s
  | nilp => exact .nilp
  | nils => exact .nils
  | nilm => exact .nilm
  | nilf => exact .nilf
  | nili => exact .nili
  | ab k n lo hi m r h1 h2 h3 h4 => exact .ab k n lo hi m r h1 h2 h3 h4
  | _ => cases hf

/-- a run of A out of nothing, at any caller's -/
theorem flat_run {E : Env} {sp : T Spec} (b : Base P ck E sp) {n f : Nat} {args : List AV} {v : AV} {h1 : AH} (e : callF E sp (exec E sp n) f args noH = .ok v h1) (hv : flat v = true) {μ : Mu} {h : AH} {w : World} {rargs : List Value} (r : R ck μ h w) (ha : VRs noMu args rargs) :
    CallN P ck f rargs μ h w v h := by
  rcases callF_ok b.ok b.fo b.so (exec_ok b.ok b.fo b.so b.dr n) f args noH v h1 e noMu w rargs (R.none r.fixIn) ha with ⟨rv, w', μ', c1, c2, c3, c4⟩ | ⟨c1, c2⟩
  · obtain ⟨r1, x1⟩ := r.below c4.below
    exact .inl ⟨rv, w', μ, c1, flat_vr hv c2, r1, x1⟩
  · refine .inr ⟨c1, fun cs => ?_⟩
    obtain ⟨rv, w', μ', fr, d1, d2, d3, d4, d5, d6⟩ := c2 cs
    obtain ⟨r1, x1⟩ := r.below d6.below
    exact ⟨rv, w', μ, fr, d1, d2, d3, flat_vr hv d4, r1, x1⟩

noncomputable def spConst (v : AV) : Spec := fun args h => match args with
  | [] => some (v, h)
  | _ :: _ => none
theorem const_spec {E : Env} {sp : T Spec} (b : Base P ck E sp) {n f : Nat} {v : AV} {h1 : AH} (e : callF E sp (exec E sp n) f [] noH = .ok v h1) (hv : flat v = true) : SpecF P ck f (spConst v) := by
  intro args h u h' e2 μ w rargs r ha
  cases args with
  | nil =>
    cases e2
    cases ha
    exact flat_run b e hv r .nil
  | cons a l => cases e2

/-- a call of a function out of nothing -/
theorem calls_flat {E : Env} {sp : T Spec} (b : Base P ck E sp) {n f : Nat} (en : Enters P f) {args : List AV} {c : Bool} {h1 : AH} (e : callF E sp (exec E sp n) f args noH = .ok (.bool c) h1) {w : World} (hf : FixIn ck w) {rargs : List Value} (ha : VRs noMu args rargs) :
    Calls P f ⟨rargs⟩ w fun e w' => e = .returned (.bool c) ∧ Below w.heap.size w w' := by
  refine calls_of b.ok b.fo b.so b.dr e (R.none hf) ha (en.run _ _) fun rv w' μ' hv hr hx => ?_
  cases hv
  exact ⟨rfl, hx.below⟩

/-- a run that ends in a truth -/
noncomputable def okT (r : RV) : Bool := RV.rec (motive := fun _ => Bool) (fun v _ => AV.rec (motive_1 := fun _ => Bool) (motive_2 := fun _ => Bool) (fun b => b) (fun _ _ => false) (fun _ => false) false (fun _ _ => false) false (fun _ _ _ _ _ _ => false) false (fun _ => false) false (fun _ _ _ _ _ => false) (fun _ => false) false (fun _ _ _ => false) (fun _ _ => false) (fun _ _ => false) (fun _ => false) false (fun _ _ _ _ _ => false) false (fun _ _ _ _ => false) v) false r
theorem okT_some {r : RV} (h : okT r = true) : ∃ h1, r = .ok (.bool true) h1 := by
  cases r with
  | fail => cases h
  | ok v h1 =>
    cases v with
    | bool b =>
      have : b = true := h
      subst this
      exact ⟨h1, rfl⟩
    | _ => cases h
end
end LA
