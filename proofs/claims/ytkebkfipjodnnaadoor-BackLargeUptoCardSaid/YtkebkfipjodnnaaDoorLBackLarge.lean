/-
  What is proved: wherever what it reads is of bulk at most 1048576, and the program's tables hold what their initialisers lay, thistlelaw14.BackLarge returns true wherever it is asked, and each argument reads afterwards as it read before.
-/
import Derived.Test.YtkebkfipjodnnaaDoorB12
set_option linter.unusedVariables false
set_option linter.unusedSimpArgs false
namespace Go.Proofs.YtkebkfipjodnnaaDoor.backLargeC
open Go.ChangeShapes Go.WideShapes Go.ChangeAt Go.RowKit
open Go.Proofs
set_option maxRecDepth 100000
theorem contract (H : Type) (enc : TypeId × Value → H) (W : World) (base : Nat) (args : Array Value) (ds gs : List (DataW H)) (before : List MemPlace)
    (hval : ∀ (j : Nat) t v, Tryd.f5.params[j]? = some t → args[j]? = some v → Value.okWide Tryd.prog W .any base t v)
    (hW : DataW.Whole enc Tryd.prog Tryd.f5.params.toList Rows.backLargeSpec.vars false W args.toList ds gs before) (hL : laidMetH Tryd.prog Rows.backLargeUptoRow.laid W) (hk : Rows.uptoSmall H (ds ++ gs) = true) :
    Calls Tryd.prog 5 args W fun e W' => ∃ v, e = .returned v ∧ Rows.backLargeSpec.post enc Tryd.prog Tryd.f5 false true false false W args v W' := by
  have hW' := hW
  obtain ⟨p, q, hA, hV, rfl, hfz, hnd⟩ := hW
  have hb : Rows.uptoBulkAll (ds ++ gs) ≤ 1048576 := of_decide_eq_true hk
  rw [Tryd.params5] at hA hval
  obtain ⟨v0, vs0, d0, ds0, p0, q0, e0, rfl, rfl, ⟨fu, h0⟩, r0⟩ := trodAll_cons hA
  obtain ⟨rfl, rfl, rfl⟩ := trodAll_nil r0
  obtain rfl : args = #[v0] := by cases args; simp_all
  obtain ⟨z0, rfl, hz0⟩ := okWide_struct Tryd.underlying40 (hval 0 40 v0 rfl rfl)
  obtain ⟨rfl, rfl⟩ := trodVars_none hV
  have hT := s_tabs hL
  obtain ⟨f0, f1, f2, f3, hr, ⟨e0, o0⟩, ⟨e1, o1⟩, ⟨e2, o2⟩, ⟨e3, o3⟩⟩ : ∃ f0 f1 f2 f3, Tryd.prog.underlying 40 = some (.struct #[f0, f1, f2, f3]) ∧ (f0.type = 3 ∧ f0.offset = 0) ∧ (f1.type = 3 ∧ f1.offset = 1) ∧ (f2.type = 3 ∧ f2.offset = 2) ∧ (f3.type = 4 ∧ f3.offset = 3) := ⟨_, _, _, _, Tryd.underlying40, ⟨rfl, rfl⟩, ⟨rfl, rfl⟩, ⟨rfl, rfl⟩, ⟨rfl, rfl⟩⟩
  obtain ⟨_, hf⟩ := Go.V.fld s_bulk hr h0
  obtain ⟨y0, fu0, h0, _⟩ := hf 0 f0 rfl
  obtain ⟨y1, fu1, h1, _⟩ := hf 1 f1 rfl
  obtain ⟨y2, fu2, h2, _⟩ := hf 2 f2 rfl
  obtain ⟨y3, fu3, h3, _⟩ := hf 3 f3 rfl
  rw [e0, o0, s_types.c1.1] at h0
  rw [e1, o1, s_types.c1.1] at h1
  rw [e2, o2, s_types.c1.1] at h2
  rw [e3, o3, s_types.c1.2.2.1] at h3
  obtain ⟨N, g0, _⟩ := DataW.trod_int Tryd.underlying3 h0
  obtain ⟨Z, g1, _⟩ := DataW.trod_int Tryd.underlying3 h1
  obtain ⟨at_, g2, _, w2⟩ := DataW.trod_int Tryd.underlying3 h2
  obtain ⟨raw, g3, _⟩ := DataW.trod_bool Tryd.underlying4 h3
  obtain rfl : z0 = #[.int .i64 N, .int .i64 Z, .int .i64 at_, .bool raw] := by
    have hz : z0.size = 4 := hz0.trans (by kernel_rfl)
    match z0, hz with
    | ⟨[a0, a1, a2, a3]⟩, _ => simp [Value.cells] at g0 g1 g2 g3; simp [g0, g1, g2, g3]
  have hat := Go.V.wf64 w2
  have walk : Calls Tryd.prog 5 #[.agg #[.int .i64 N, .int .i64 Z, .int .i64 at_, .bool raw]] W fun e w' => e = .returned (.bool true) ∧ Go.V.Ext W w' :=
    Go.V.backLarge_ (Go.V.Sub.refl _) hT hat
  refine walk.mono fun e W' ⟨he, hg⟩ => ?_
  subst he
  exact ⟨_, rfl, Go.V.law_post s_laidOut s_rowed s_full (by rw [Tryd.params5]; intro t ht; simp only [List.mem_cons, List.mem_singleton, List.not_mem_nil, or_false] at ht; subst ht; decide +kernel) Tryd.underlying4 rfl rfl hW' rfl hg⟩
theorem laid_met (os : Os) : laidMet Tryd.prog Rows.backLargeUptoRow.laid ((laidWorld os).forCall (fun _ _ => 0) ⟨#[], #[.agg #[.int .i64 0, .int .i64 0, .int .i64 0, .bool false]], []⟩).memory :=
  laidMet_of_run' 8 (by kernel_rfl) (by kernel_rfl)
theorem reads (os : Os) {H : Type} (enc : TypeId × Value → H) : ∃ places, DataW.whole enc Tryd.prog ((laidWorld os).forCall (fun _ _ => 0) ⟨#[], #[.agg #[.int .i64 0, .int .i64 0, .int .i64 0, .bool false]], []⟩).memory Tryd.f5.params.toList Rows.backLargeSpec.vars false #[.agg #[.int .i64 0, .int .i64 0, .int .i64 0, .bool false]].toList 8 = some ([.agg [.lit (.int .i64 0), .lit (.int .i64 0), .lit (.int .i64 0), .lit (.bool false)]], [], places) :=
  ⟨[], by kernel_rfl⟩
theorem liftedUpto (os : Os) (started : os.Started) (H : Type) (enc : TypeId × Value → H) (F : Stop.Interp) :
    ReturnsInHanded {} Tryd.checked os 5 .any ((Rows.OpenSpec.upto Rows.backLargeSpec).preRow enc Tryd.prog Tryd.f5 Rows.backLargeUptoRow.domain false Rows.backLargeUptoRow.laid) (((Rows.OpenSpec.upto Rows.backLargeSpec).at F).post enc Tryd.prog Tryd.f5 false true false false) := by
  obtain ⟨places, hx⟩ := reads os enc
  refine returnsInHanded_of_row (C := Tryd.checked) (s := Rows.OpenSpec.upto Rows.backLargeSpec) s_own started (by kernel_rfl) Tryd.func5
    (witness_row_at (enc := enc) (C := Tryd.checked) false (laidWorld os) #[.agg #[.int .i64 0, .int .i64 0, .int .i64 0, .bool false]] rfl (by kernel_rfl) (by kernel_rfl) (by kernel_rfl)
      (OpenSpec.preRow_of_cond 8 hx (by kernel_rfl) (fun k hk => by cases hk; kernel_rfl) (by kernel_rfl) (laid_met os))) ?_
  intro W base args ds gs before hval hW _ hcond _ hL _ _
  exact contract H enc W base args ds gs before hval hW hL (hcond _ rfl)
theorem saidUpto : Rows.BackLargeUptoSaid :=
  OpenClaim.holds_of_cond 5 Tryd.f5 rfl rfl rfl rfl rfl rfl rfl ⟨rfl, rfl, rfl, rfl, rfl⟩ rfl rfl rfl rfl rfl (by kernel_rfl) Tryd.func5 (by kernel_rfl)
    (of_decide_eq_true (by kernel_rfl)) (by unfold Func.isWrapper; first | (rw [if_pos (by decide +kernel)]; kernel_rfl) | (rw [if_neg (by decide +kernel)]; exact ⟨rfl, rfl⟩))
    (fun os started H enc _ F => by rw [OpenClaim.pre_eq_preRow]; exact liftedUpto os started H enc F)
theorem plain (f : FuncId) (fn : Func) (hf : Tryd.pinned.checked.prog.funcNamed "thistle/thistlelaw14.BackLarge" = some f) (hfn : Tryd.pinned.checked.prog.funcs[f]? = some fn) :
    false = Tryd.pinned.checked.prog.looks [] ∧ ∀ (j : Nat) t, fn.params[j]? = some t → Tryd.pinned.checked.prog.wantsStandIn t = false := by
  obtain rfl : f = 5 := Option.some.inj ((show Tryd.prog.funcNamed "thistle/thistlelaw14.BackLarge" = some 5 by kernel_rfl).symm.trans hf) |>.symm
  obtain rfl : fn = Tryd.f5 := (Option.some.inj (Tryd.func5.symm.trans hfn)).symm
  refine ⟨by kernel_rfl, fun j t ht => ?_⟩
  rw [Tryd.params5] at ht
  have ht := Array.mem_of_getElem? ht
  simp only [List.mem_toArray, List.mem_cons, List.mem_singleton, List.not_mem_nil, or_false] at ht
  subst ht
  · exact (show Tryd.prog.wantsStandIn 40 = false by kernel_rfl)
/-- The card. -/
theorem cardUpto : Rows.BackLargeUptoCardSaid :=
  Claim7.holds_tied_plain_at .later [] _ _ _ _ saidUpto (fun _ h => by cases h) (by kernel_rfl) (fun _ h => by cases h) backLargeUpto_row_tie rfl ⟨rfl, rfl⟩ (by kernel_rfl) rfl plain (by kernel_rfl)
end Go.Proofs.YtkebkfipjodnnaaDoor.backLargeC
