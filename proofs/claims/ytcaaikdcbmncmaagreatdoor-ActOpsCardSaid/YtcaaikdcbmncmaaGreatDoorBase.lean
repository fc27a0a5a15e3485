/-
What the run asks holds at each world that the rows speak of.
-/
import Derived.Test.YtcaaikdcbmncmaaGreatDoorEnv
import Derived.Stop.LaidErr
import Derived.Lib.LaidTab
import Derived.Test.YtcaaikdcbmncmaaGreatDoorRows
import Derived.LaidMore
import Derived.Shelf.Vars
import GoSem.ClaimGoes
open Go LA Go.Proofs
namespace K
open Go.RowKit

/-- the blocks of a world's first variables: nobody turns them -/
def fxOf (W : World) (g : Nat) : Option (Array Value) := if g < 9 then (match W.heap[g]? with
  | some (.cells c _ _) => some c
  | _ => none) else none
theorem fix_in (W : World) : FixIn (ck (fxOf W)) W := by
  intro rb c e
  have e : fxOf W rb = some c := e
  unfold fxOf at e
  split at e
  · split at e
    · rename_i c' t f h
      cases e
      exact ⟨t, f, h⟩
    · cases e
  · cases e

noncomputable def entersB (f : Nat) : Bool := match Tryz.prog.funcs[f]? with
  | some fn => !(fn.name == "runtime.NumGoroutine") && fn.body.isSome
  | none => false
theorem enters {f : Nat} (h : entersB f = true) : LA.Enters Tryz.prog f := by
  unfold entersB at h
  cases hf : Tryz.prog.funcs[f]? with
  | none => rw [hf] at h; cases h
  | some fn =>
    rw [hf] at h
    have h := (Bool.and_eq_true _ _).mp h
    obtain ⟨b, hb⟩ := Option.isSome_iff_exists.1 h.2
    exact ⟨fn, b, hf, by simpa using h.1, hb⟩

/-- what a world must be -/
structure WOk (W : World) : Prop where
  maxLen : MaxLen (ck (fxOf W)) 0
  es : ErrCell (ck (fxOf W)) 1
  er : ErrCell (ck (fxOf W)) 2
  pow : (ck (fxOf W)).fixed 3 = some (Lib.pow10Tab.map fun z => Value.int .u64 z).toArray

theorem gPow : Tryz.prog.globalNamed "internal/strconv.uint64pow10" = some 3 := by kernel_rfl
theorem gES : Tryz.prog.globalNamed "strconv.ErrSyntax" = some 1 := by kernel_rfl
theorem gER : Tryz.prog.globalNamed "strconv.ErrRange" = some 2 := by kernel_rfl

theorem num64 : NumC Tryz.prog 406 (fun s w Q => Calls Tryz.prog 124 #[.string s, .int .i64 10, .int .i64 64] w Q) 1 2 := by
  refine ⟨fun s v w h1 h2 => (Tryz.strconv_ParseInt_10_at64_ok s h1 v h2 w).mono fun e w' q => ⟨q.1, q.2.imp id fun ⟨t, h⟩ => ⟨5, t, h⟩⟩, fun s ev w h1 h2 h3 h4 => (Tryz.strconv_ParseInt_10_at64_syntax s h1 h2 ev w h3 (.inr h4)).mono fun e w' q => ?_, fun s ev w h1 h2 h3 h4 => (Tryz.strconv_ParseInt_10_at64_range s h1 h2 ev w h3 (.inr h4)).mono fun e w' q => ?_⟩
  · obtain ⟨N, q1, _, _, q2⟩ := q
    exact ⟨N, q1, q2⟩
  · obtain ⟨N, q1, _, _, q2⟩ := q
    exact ⟨N, q1, q2⟩

theorem base {W : World} (o : WOk W) : Base Tryz.prog (ck (fxOf W)) E sp0 where
  ok := envOf_ok _ _
  fo := fns_ok _
  dr := draw_ok mixed (envOf_ok _ _)
  so := by
    have x := specOk_nil (P := Tryz.prog) (ck := ck (fxOf W))
    have x := specOk_set x (index_spec (enters (f := 261) (by kernel_rfl)) o.maxLen Tryz.stringslite_Index)
    have x := specOk_set x (index_spec (enters (f := 189) (by kernel_rfl)) o.maxLen Tryz.strings_Index)
    have x := specOk_set x (indexByte_spec (enters (f := 197) (by kernel_rfl)) Tryz.stringslite_IndexByte)
    have x := specOk_set x (indexByte_spec (enters (f := 132) (by kernel_rfl)) Tryz.strings_IndexByte)
    have x := specOk_set x (contains_spec (enters (f := 329) (by kernel_rfl)) o.maxLen Tryz.strings_Contains)
    have x := specOk_set x (cut_spec (enters (f := 262) (by kernel_rfl)) o.maxLen Tryz.stringslite_Cut)
    have x := specOk_set x (cut_spec (enters (f := 191) (by kernel_rfl)) o.maxLen Tryz.strings_Cut)
    have x := specOk_set x (count_spec (enters (f := 188) (by kernel_rfl)) o.maxLen Tryz.strings_Count_any)
    have x := specOk_set x (itoa_spec (enters (f := 73) (by kernel_rfl)) gPow o.pow fun n w h0 h1 hv => Tryz.strconv_Itoa n h0 h1 w hv)
    have x := specOk_set x (format_spec (enters (f := 125) (by kernel_rfl)) gPow o.pow fun n w h0 h1 hv => Tryz.strconv_FormatInt_10 n h0 h1 w hv)
    have x := specOk_set x (parse_spec (enters (f := 124) (by kernel_rfl)) o.es o.er num64)
    exact specOk_set x (join_spec (enters (f := 74) (by kernel_rfl)) Tryz.strings_Join_none Tryz.strings_Join)

theorem fixed_of {W : World} {n : String} {g : Nat} {cs : Array Value} (hg : Tryz.prog.globalNamed n = some g) (hlt : g < 9) (h : W.var? Tryz.prog n = some cs) : (ck (fxOf W)).fixed g = some cs := by
  show fxOf W g = some cs
  unfold fxOf
  rw [if_pos hlt]
  simp only [World.var?, hg, Option.bind_some] at h
  exact h

theorem star : "*" ++ "errors.errorString" = "*errors.errorString" := by decide
theorem row500 (u : TypeId) (h : Tryz.prog.typeName? 3 u = some "*errors.errorString") : u = 500 :=
  typeName_ptr_named (nm := "errors.errorString") (by rw [star]; kernel_rfl) (by kernel_rfl) (by decide) u (by rw [star]; exact h)

open Go.Proofs.YtcaaikdcbmncmaaGreatDoor in
theorem wok_of {W : World} (hs : W.ShapedOpen Tryz.prog) (hL : laidMetH Tryz.prog Rows.actOpsRow.laid W) : WOk W := by
  rw [MakeChecks.laidMetH_plain _ _ _ (by kernel_rfl)] at hL
  have l1 := laidMet.tail hL
  have l2 := laidMet.tail l1
  have l3 := laidMet.tail l2
  have l4 := laidMet.tail l3
  have l5 := laidMet.tail l4
  have ht : Lib.TabIs Tryz.prog W "internal/strconv.uint64pow10" .u64 Lib.pow10Tab :=
    Lib.tabIs_of_head (g := 3) (t := 462) (e := 403) (n := 20) gPow (by kernel_rfl) (by kernel_rfl) (by kernel_rfl) (by kernel_rfl) (by kernel_rfl) l2
  obtain ⟨a1, s1, hr, _⟩ := laid_sentinel (g := 2) (ti := 222) l4 gER (by kernel_rfl) Tryz.underlying222 row500 Tryz.underlying500 Tryz.underlying502 rfl rfl Tryz.underlying9 (by kernel_rfl) (by kernel_rfl)
  obtain ⟨a2, s2, hy, _⟩ := laid_sentinel (g := 1) (ti := 222) l5 gES (by kernel_rfl) Tryz.underlying222 row500 Tryz.underlying500 Tryz.underlying502 rfl rfl Tryz.underlying9 (by kernel_rfl) (by kernel_rfl)
  obtain ⟨m, hm⟩ := cell_of_shapedOpen_int (P := Tryz.prog) (g := 0) (t := 3) (zero := #[.int .i64 0]) hs (of_decide_eq_true (by kernel_rfl)) (by kernel_rfl) rfl (by kernel_rfl) (by kernel_rfl) Tryz.underlying3
  refine ⟨?_, ⟨_, _, fixed_of gES (by omega) hy⟩, ⟨_, _, fixed_of gER (by omega) hr⟩, fixed_of gPow (by omega) ht⟩
  unfold World.cell? at hm
  cases hh : W.heap[0]? with
  | none => simp [hh] at hm
  | some ob =>
    cases ob with
    | cells c t f => exact ⟨m, c, by show fxOf W 0 = some c; simp [fxOf, hh], by simpa [hh] using hm⟩
    | _ => simp [hh] at hm
end K

open Go LA Go.Proofs
namespace K
theorem goes_none {P : Program} (hall : P.funcs.toList.any Func.goes = false) (f : FuncId) : P.goes f = false := by
  have h1 : ∀ g : Nat, (P.funcs[g]?).any Func.goes = false := by
    intro g
    cases hg : P.funcs[g]? with
    | none => rfl
    | some fn =>
      have hm : fn ∈ P.funcs.toList := Array.mem_toList_iff.2 (Array.mem_of_getElem? hg)
      have := List.any_eq_false.1 hall fn hm
      simpa using this
  unfold Program.goes
  have h2 : P.funcs.any Func.goes = false := by rw [← Array.any_toList]; exact hall
  rw [h2, Bool.and_false, Bool.or_false]
  simp [h1]
set_option maxRecDepth 100000
theorem no_go : Tryz.prog.funcs.toList.any Func.goes = false := by kernel_rfl
theorem goesBy_none {P : Program} (hall : P.funcs.toList.any Func.goes = false) (c : OpenClaim) (h : c.start = .entering) : false = c.goesBy P := by
  unfold OpenClaim.goesBy Program.goesAt Program.goesFrom
  rw [h]
  cases P.funcNamed c.func with
  | none => rfl
  | some f => simp [goes_none hall f]
theorem goesBy_false (c : OpenClaim) (h : c.start = .entering) : false = c.goesBy Tryz.prog := goesBy_none no_go c h
end K
