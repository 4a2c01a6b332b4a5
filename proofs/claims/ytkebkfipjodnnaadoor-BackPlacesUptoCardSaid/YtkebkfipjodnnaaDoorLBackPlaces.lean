/-
  What is proved: wherever what it reads is of bulk at most 1048576, and the program's tables hold what their initialisers lay, thistlelaw14.BackPlaces returns true wherever it is asked, and each argument reads afterwards as it read before.
-/
import Derived.Test.YtkebkfipjodnnaaDoorB11
set_option linter.unusedVariables false
set_option linter.unusedSimpArgs false
namespace Go.Proofs.YtkebkfipjodnnaaDoor.backPlacesC
open Go.ChangeShapes Go.WideShapes Go.ChangeAt Go.RowKit
open Go.Proofs
set_option maxRecDepth 100000
theorem contract (H : Type) (enc : TypeId × Value → H) (W : World) (base : Nat) (args : Array Value) (ds gs : List (DataW H)) (before : List MemPlace)
    (hval : ∀ (j : Nat) t v, Tryd.f4.params[j]? = some t → args[j]? = some v → Value.okWide Tryd.prog W .any base t v)
    (hW : DataW.Whole enc Tryd.prog Tryd.f4.params.toList Rows.backPlacesSpec.vars false W args.toList ds gs before) (hL : laidMetH Tryd.prog Rows.backPlacesUptoRow.laid W) (hk : Rows.uptoSmall H (ds ++ gs) = true) :
    Calls Tryd.prog 4 args W fun e W' => ∃ v, e = .returned v ∧ Rows.backPlacesSpec.post enc Tryd.prog Tryd.f4 false true false false W args v W' := by
  have hW' := hW
  obtain ⟨p, q, hA, hV, rfl, hfz, hnd⟩ := hW
  have hb : Rows.uptoBulkAll (ds ++ gs) ≤ 1048576 := of_decide_eq_true hk
  rw [Tryd.params4] at hA hval
  obtain ⟨v0, vs0, d0, ds0, p0, q0, e0, rfl, rfl, ⟨fu, h0⟩, r0⟩ := trodAll_cons hA
  obtain ⟨v1, vs1, d1, ds1, p1, q1, rfl, rfl, rfl, ⟨fu1, h1⟩, r1⟩ := trodAll_cons r0
  obtain ⟨v2, vs2, d2, ds2, p2, q2, rfl, rfl, rfl, ⟨fu2, h2⟩, r2⟩ := trodAll_cons r1
  obtain ⟨rfl, rfl, rfl⟩ := trodAll_nil r2
  obtain rfl : args = #[v0, v1, v2] := by cases args; simp_all
  obtain ⟨z0, rfl, hz0⟩ := okWide_struct Tryd.underlying31 (hval 0 31 v0 rfl rfl)
  obtain ⟨s, rfl⟩ := okWide_string Tryd.underlying9 (hval 1 9 v1 rfl rfl)
  obtain ⟨at_, rfl⟩ := okWide_int Tryd.underlying3 (hval 2 3 v2 rfl rfl)
  obtain ⟨rfl, rfl⟩ := trodVars_none hV
  have hT := s_tabs hL
  have hb3 : Rows.uptoBulk d0 + Rows.uptoBulk d1 + Rows.uptoBulk d2 ≤ 1048576 := by
    simp only [List.append_nil, List.cons_append, List.nil_append, Rows.uptoBulkAll] at hb; omega
  obtain ⟨A, n, c, B, m, k, p, e, hnc, hmk, hg⟩ := Go.V.rdProg s_bulk s_types (by have : Go.V.Big = 1048576 := rfl; have : Rows.uptoBulk d0 ≤ 1048576 := (by omega); omega) h0
  obtain ⟨s', g1, es, _⟩ := DataW.trod_string Tryd.underlying9 h1
  obtain ⟨z, g2, _, w2⟩ := DataW.trod_int Tryd.underlying3 h2
  simp [Value.cells] at e g1 g2
  subst g1
  subst g2
  obtain rfl : z0 = #[.slice A n c, .slice B m k, .bool p.raw] := by cases z0; simp_all
  have hat := Go.V.wf64 w2
  have hsz : s.size ≤ 1048576 := by
    cases es
    have h := s_bulk.str (H := H) s.data.toList
    have hs : s.size = s.data.toList.length := Array.length_toList.symm
    omega
  have walk : Calls Tryd.prog 4 #[.agg #[.slice A n c, .slice B m k, .bool p.raw], .string s, .int .i64 at_] W fun e w' => e = .returned (.bool true) ∧ Go.V.Ext W w' :=
    Go.V.backPlaces_ (Go.V.Sub.refl _) hT hg hmk hat hsz
  refine walk.mono fun e W' ⟨he, hg⟩ => ?_
  subst he
  exact ⟨_, rfl, Go.V.law_post s_laidOut s_rowed s_full (by rw [Tryd.params4]; intro t ht; simp only [List.mem_cons, List.mem_singleton, List.not_mem_nil, or_false] at ht; rcases ht with rfl | rfl | rfl <;> decide +kernel) Tryd.underlying4 rfl rfl hW' rfl hg⟩
theorem laid_met (os : Os) : laidMet Tryd.prog Rows.backPlacesUptoRow.laid ((laidWorld os).forCall (fun _ _ => 0) ⟨#[], #[.agg #[.slice none 0 0, .slice none 0 0, .bool false], .string ⟨#[]⟩, .int .i64 0], []⟩).memory :=
  laidMet_of_run' 8 (by kernel_rfl) (by kernel_rfl)
theorem reads (os : Os) {H : Type} (enc : TypeId × Value → H) : ∃ places, DataW.whole enc Tryd.prog ((laidWorld os).forCall (fun _ _ => 0) ⟨#[], #[.agg #[.slice none 0 0, .slice none 0 0, .bool false], .string ⟨#[]⟩, .int .i64 0], []⟩).memory Tryd.f4.params.toList Rows.backPlacesSpec.vars false #[.agg #[.slice none 0 0, .slice none 0 0, .bool false], .string ⟨#[]⟩, .int .i64 0].toList 8 = some ([.agg [.nil, .nil, .lit (.bool false)], .lit (.string []), .lit (.int .i64 0)], [], places) :=
  ⟨[], by kernel_rfl⟩
theorem liftedUpto (os : Os) (started : os.Started) (H : Type) (enc : TypeId × Value → H) (F : Stop.Interp) :
    ReturnsInHanded {} Tryd.checked os 4 .any ((Rows.OpenSpec.upto Rows.backPlacesSpec).preRow enc Tryd.prog Tryd.f4 Rows.backPlacesUptoRow.domain false Rows.backPlacesUptoRow.laid) (((Rows.OpenSpec.upto Rows.backPlacesSpec).at F).post enc Tryd.prog Tryd.f4 false true false false) := by
  obtain ⟨places, hx⟩ := reads os enc
  refine returnsInHanded_of_row (C := Tryd.checked) (s := Rows.OpenSpec.upto Rows.backPlacesSpec) s_own started (by kernel_rfl) Tryd.func4
    (witness_row_at (enc := enc) (C := Tryd.checked) false (laidWorld os) #[.agg #[.slice none 0 0, .slice none 0 0, .bool false], .string ⟨#[]⟩, .int .i64 0] rfl (by kernel_rfl) (by kernel_rfl) (by kernel_rfl)
      (OpenSpec.preRow_of_cond 8 hx (by kernel_rfl) (fun k hk => by cases hk; kernel_rfl) (by kernel_rfl) (laid_met os))) ?_
  intro W base args ds gs before hval hW _ hcond _ hL _ _
  exact contract H enc W base args ds gs before hval hW hL (hcond _ rfl)
theorem saidUpto : Rows.BackPlacesUptoSaid :=
  OpenClaim.holds_of_cond 4 Tryd.f4 rfl rfl rfl rfl rfl rfl rfl ⟨rfl, rfl, rfl, rfl, rfl⟩ rfl rfl rfl rfl rfl (by kernel_rfl) Tryd.func4 (by kernel_rfl)
    (of_decide_eq_true (by kernel_rfl)) (by unfold Func.isWrapper; first | (rw [if_pos (by decide +kernel)]; kernel_rfl) | (rw [if_neg (by decide +kernel)]; exact ⟨rfl, rfl⟩))
    (fun os started H enc _ F => by rw [OpenClaim.pre_eq_preRow]; exact liftedUpto os started H enc F)
theorem plain (f : FuncId) (fn : Func) (hf : Tryd.pinned.checked.prog.funcNamed "thistle/thistlelaw14.BackPlaces" = some f) (hfn : Tryd.pinned.checked.prog.funcs[f]? = some fn) :
    false = Tryd.pinned.checked.prog.looks [] ∧ ∀ (j : Nat) t, fn.params[j]? = some t → Tryd.pinned.checked.prog.wantsStandIn t = false := by
  obtain rfl : f = 4 := Option.some.inj ((show Tryd.prog.funcNamed "thistle/thistlelaw14.BackPlaces" = some 4 by kernel_rfl).symm.trans hf) |>.symm
  obtain rfl : fn = Tryd.f4 := (Option.some.inj (Tryd.func4.symm.trans hfn)).symm
  refine ⟨by kernel_rfl, fun j t ht => ?_⟩
  rw [Tryd.params4] at ht
  have ht := Array.mem_of_getElem? ht
  simp only [List.mem_toArray, List.mem_cons, List.mem_singleton, List.not_mem_nil, or_false] at ht
  rcases ht with rfl | rfl | rfl
  · exact (show Tryd.prog.wantsStandIn 31 = false by kernel_rfl)
  · exact (show Tryd.prog.wantsStandIn 9 = false by kernel_rfl)
  · exact (show Tryd.prog.wantsStandIn 3 = false by kernel_rfl)
/-- The card. -/
theorem cardUpto : Rows.BackPlacesUptoCardSaid :=
  Claim7.holds_tied_plain_at .later [] _ _ _ _ saidUpto (fun _ h => by cases h) (by kernel_rfl) (fun _ h => by cases h) backPlacesUpto_row_tie rfl ⟨rfl, rfl⟩ (by kernel_rfl) rfl plain (by kernel_rfl)
end Go.Proofs.YtkebkfipjodnnaaDoor.backPlacesC
