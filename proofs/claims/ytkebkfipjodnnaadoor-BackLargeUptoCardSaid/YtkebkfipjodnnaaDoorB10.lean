/-
  Lemmas of this claim's own, part 11: contracts of the functions that the statement reaches, and the plain facts behind them.
-/
import Derived.Test.YtkebkfipjodnnaaDoorB09
import Derived.Test.YtkebkfipjodnnaaDoorCards
import Derived.Test.YtkebkfipjodnnaaDoorTie
import Derived.WalkKit
import Derived.ProofKit
import Derived.OpenShut
import Derived.Deep.DeepHandedRow
import Derived.Lib.LaidTab
set_option linter.unusedVariables false
set_option linter.unusedSimpArgs false
namespace Go.Proofs.YtkebkfipjodnnaaDoor
open Go.ChangeShapes Go.WideShapes Go.ChangeAt Go.RowKit
set_option maxRecDepth 100000
theorem s_own : ownKnob Tryd.prog.godebug = none := by kernel_rfl
theorem s_laidOut : laidOutB Tryd.prog = true := by kernel_rfl
theorem s_rowed : mapsRowed Tryd.prog = true := by kernel_rfl
theorem s_full : ∀ t e, t < Tryd.prog.types.size → Tryd.prog.underlying t = some (.slice e) → 0 < Tryd.prog.cellsOf e := slices_full_of Tryd.prog (by kernel_rfl)
theorem s_bulk {H : Type} : Go.V.Bulky (Rows.uptoBulk (H := H)) Rows.uptoBulkAll where
  slice _ _ := by simp [Rows.uptoBulk]
  agg _ := by simp [Rows.uptoBulk]
  str _ := by simp [Rows.uptoBulk]
  one d := by
    cases d with
    | lit l => cases l <;> simp [Rows.uptoBulk]
    | _ => simp [Rows.uptoBulk]
  nil := by simp [Rows.uptoBulkAll]
  cons _ _ := by simp [Rows.uptoBulkAll]
theorem s_types : Go.V.TyS Tryd.prog 3 21 4 9 54 42 44 28 29 31 where
  int := Tryd.underlying3
  rune := Tryd.underlying21
  bool := Tryd.underlying4
  str := Tryd.underlying9
  rng := ⟨_, _, Tryd.underlying54, rfl, rfl, rfl, rfl⟩
  rngs := Tryd.underlying42
  inst := ⟨_, _, _, _, _, Tryd.underlying44, ⟨rfl, rfl⟩, ⟨rfl, rfl⟩, ⟨rfl, rfl⟩, ⟨rfl, rfl⟩, ⟨rfl, rfl⟩⟩
  insts := Tryd.underlying28
  strs := Tryd.underlying29
  prog := ⟨_, _, _, Tryd.underlying31, ⟨rfl, rfl⟩, ⟨rfl, rfl⟩, ⟨rfl, rfl⟩⟩
  c1 := ⟨by kernel_rfl, by kernel_rfl, by kernel_rfl, by kernel_rfl, by kernel_rfl, by kernel_rfl, by kernel_rfl⟩
  c2 := by kernel_rfl
  c5 := by kernel_rfl
  c3 := by kernel_rfl
/-- The three tables, out of the row's list. -/
theorem s_tabs {W : World} (h : laidMetH Tryd.prog [("unicode/utf8.acceptRanges", Rows.laid_unicode_utf8_acceptRanges), ("thistle/sets.bands", Rows.laid_thistle_sets_bands), ("unicode/utf8.first", Rows.laid_unicode_utf8_first)] W) : Go.V.Tabs 0 1 2 (Go.V.hp W) :=
  Go.V.tabs_of (P := Tryd.prog) (n1 := "unicode/utf8.acceptRanges") (n2 := "thistle/sets.bands") (n3 := "unicode/utf8.first") (gA := 1) (gB := 2) (gF := 0) (tA := 235) (tB := 238) (tF := 232) (u8 := 5) (i32 := 21)
    (by kernel_rfl) (by kernel_rfl) (by kernel_rfl) (by kernel_rfl) (by kernel_rfl) (by kernel_rfl) Tryd.underlying235 Tryd.underlying238 Tryd.underlying232 Tryd.underlying234 Tryd.underlying54 Tryd.underlying5 Tryd.underlying21 Tryd.underlying5
    ⟨rfl, rfl⟩ ⟨rfl, rfl⟩ ⟨rfl, rfl⟩ ⟨rfl, rfl⟩ (by kernel_rfl) (by kernel_rfl) (by kernel_rfl) (by kernel_rfl) (by kernel_rfl) (by kernel_rfl) h
def putC (l : List Value) : Obj → Obj
  | .cells _ t frozen => .cells l.toArray t frozen
  | o => o
/-- A world whose tables hold what their initialisers lay. -/
noncomputable def laidWorld (os : Os) : World :=
  { World.holding Tryd.prog os ⟨#[], #[], []⟩ with heap := (((World.holding Tryd.prog os ⟨#[], #[], []⟩).heap.modify 0 (putC (Go.V.utf8FirstL.map fun z => Value.int .u8 z))).modify 1 (putC (Go.V.acceptL.flatMap fun z => [Value.int .u8 z.1, Value.int .u8 z.2]))).modify 2 (putC (Go.V.bandL.flatMap fun z => [Value.int .i32 z.lo, Value.int .i32 z.hi])) }
end Go.Proofs.YtkebkfipjodnnaaDoor
namespace Go.Proofs.YtkebkfipjodnnaaDoor
open Go.ChangeShapes Go.WideShapes Go.ChangeAt Go.RowKit
set_option maxRecDepth 100000
theorem rdOps {H : Type} {enc : TypeId × Value → H} {W : World} {fuel : Nat} {cs : List Value} {x : DataW H × List MemPlace} (hx0 : Rows.uptoBulk x.1 ≤ Go.V.Big) (h : DataW.trod enc Tryd.prog W 0 (fun _ => true) true fuel 22 cs = some x) :
    ∃ A n c os, cs = [.slice A n c] ∧ n ≤ c ∧ c ≤ Rows.uptoBulk x.1 ∧ Go.V.RdO (Go.V.hp W) A n os := by
  obtain ⟨A, n, c, rfl, hnc, hcb, _, hA, hx⟩ := Go.V.rdSlice s_bulk Tryd.underlying22 (show Tryd.prog.cellsOf 33 = 7 by kernel_rfl) (by omega) h
  rcases Nat.eq_zero_or_pos n with rfl | hn
  · exact ⟨A, 0, c, [], rfl, hnc, hcb, ⟨rfl, fun h => by omega⟩⟩
  obtain ⟨b, o, rfl⟩ := hA hn
  have key : ∀ i, i < n → ∃ r : Go.V.Opn, ∃ Ai ni ci Bi mi di, mi ≤ di ∧ Go.V.RdG (Go.V.hp W) Ai ni Bi mi r.p ∧ Go.V.I64 r.at_ ∧ r.s.size ≤ Go.V.Big ∧
      Go.V.atN (Go.V.hp W) b (o + i * 7) 7 = some [.slice Ai ni ci, .slice Bi mi di, .bool r.p.raw, .string r.s, .int .i64 r.at_, .bool r.longest, .bool r.frm] := by
    intro i hi
    obtain ⟨cs', y, fu, hl, hat, ht, hy⟩ := hx b o rfl i hi
    obtain ⟨f0, f1, f2, f3, f4, hr, ⟨e0, o0⟩, ⟨e1, o1⟩, ⟨e2, o2⟩, ⟨e3, o3⟩, ⟨e4, o4⟩⟩ : ∃ f0 f1 f2 f3 f4, Tryd.prog.underlying 33 = some (.struct #[f0, f1, f2, f3, f4]) ∧ (f0.type = 31 ∧ f0.offset = 0) ∧ (f1.type = 9 ∧ f1.offset = 3) ∧ (f2.type = 3 ∧ f2.offset = 4) ∧ (f3.type = 4 ∧ f3.offset = 5) ∧ (f4.type = 4 ∧ f4.offset = 6) := ⟨_, _, _, _, _, Tryd.underlying33, ⟨rfl, rfl⟩, ⟨rfl, rfl⟩, ⟨rfl, rfl⟩, ⟨rfl, rfl⟩, ⟨rfl, rfl⟩⟩
    obtain ⟨_, hf⟩ := Go.V.fld s_bulk hr ht
    obtain ⟨y0, fu0, h0, b0⟩ := hf 0 f0 rfl
    obtain ⟨y1, fu1, h1, b1⟩ := hf 1 f1 rfl
    obtain ⟨y2, fu2, h2, _⟩ := hf 2 f2 rfl
    obtain ⟨y3, fu3, h3, _⟩ := hf 3 f3 rfl
    obtain ⟨y4, fu4, h4, _⟩ := hf 4 f4 rfl
    rw [e0, o0, s_types.c3] at h0
    rw [e1, o1, s_types.c1.2.2.2.1] at h1
    rw [e2, o2, s_types.c1.1] at h2
    rw [e3, o3, s_types.c1.2.2.1] at h3
    rw [e4, o4, s_types.c1.2.2.1] at h4
    obtain ⟨Ai, ni, ci, Bi, mi, di, p, g0, _, hmd, hg⟩ := Go.V.rdProg s_bulk s_types (by omega) h0
    obtain ⟨s, g1, es, _⟩ := DataW.trod_string Tryd.underlying9 h1
    obtain ⟨z, g2, _, w2⟩ := DataW.trod_int Tryd.underlying3 h2
    obtain ⟨l, g3, _⟩ := DataW.trod_bool Tryd.underlying4 h3
    obtain ⟨f, g4, _⟩ := DataW.trod_bool Tryd.underlying4 h4
    match cs', hl with
    | [a0, a1, a2, a3, a4, a5, a6], _ =>
      simp at g0 g1 g2 g3 g4
      obtain ⟨rfl, rfl, rfl⟩ := g0
      subst g1; subst g2; subst g3; subst g4
      refine ⟨⟨p, s, z, l, f⟩, Ai, ni, ci, Bi, mi, di, hmd, hg, Go.V.wf64 w2, ?_, hat⟩
      have := s_bulk.str (H := H) s.data.toList
      rw [es] at b1
      have hs : s.size = s.data.toList.length := Array.length_toList.symm
      simp only at b1
      show s.size ≤ _
      omega
  haveI : Inhabited Go.V.Opn := ⟨⟨⟨[], [], false⟩, ⟨#[]⟩, 0, false, false⟩⟩
  obtain ⟨f, hf⟩ := Go.Deep.choose_lt key
  refine ⟨_, n, c, (List.range n).map f, rfl, hnc, hcb, by simp, fun _ => ⟨b, o, rfl, fun i hi => ?_⟩⟩
  have e : Go.V.gO ((List.range n).map f) i = f i := by simp [Go.V.gO, hi]
  rw [e]; exact hf i hi
end Go.Proofs.YtkebkfipjodnnaaDoor
