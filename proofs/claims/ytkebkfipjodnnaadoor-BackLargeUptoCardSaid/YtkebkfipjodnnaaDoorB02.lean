/-
  Lemmas of this claim's own, part 3: contracts of the functions that the statement reaches, and the plain facts behind them.
-/
import Derived.Test.YtkebkfipjodnnaaDoorB01
import Derived.Test.YtkebkfipjodnnaaDoorChecked
set_option linter.unusedVariables false
set_option linter.unusedSimpArgs false
namespace Go.V
open Go.Proofs
set_option linter.unusedVariables false
set_option linter.unusedSimpArgs false

theorem _root_.Go.Proofs.Tryd.mixed : Tryd.prog.follows .mixedOrders = true := by kernel_rfl
/-- The tables, by their numbers here. -/
abbrev T (h : Hp) : Prop := Tabs 0 1 2 h

theorem build243 (vs : List (Nat × Value)) (cs : List Value) (w : World) (h : Instr.fill (fun i => ([(0, 1), (1, 1)] : List (Nat × Nat))[i]?) ([.int .i64 0, .int .i64 0] : List Value).toArray vs = some cs.toArray) : (Instr.build 243 vs.toArray).run Tryd.prog w = .ok (.agg cs.toArray) w := by
  have hz : ∀ w, (zeroValue 243).run Tryd.prog w = .ok (.agg #[.int .i64 0, .int .i64 0]) w := Tryd.zeroValue243
  simp only [Instr.build, Sem.run_bind, hz, Tryd.runUnderlying243, Result.andThen_ok]
  simp [Tryd.sizeOf3]
  simp only [Value.cells]
  rw [h]
  rfl
theorem build31 (vs : List (Nat × Value)) (cs : List Value) (w : World) (h : Instr.fill (fun i => ([(0, 1), (1, 1), (2, 1)] : List (Nat × Nat))[i]?) ([.slice none 0 0, .slice none 0 0, .bool false] : List Value).toArray vs = some cs.toArray) : (Instr.build 31 vs.toArray).run Tryd.prog w = .ok (.agg cs.toArray) w := by
  have hz : ∀ w, (zeroValue 31).run Tryd.prog w = .ok (.agg #[.slice none 0 0, .slice none 0 0, .bool false]) w := Tryd.zeroValue31
  simp only [Instr.build, Sem.run_bind, hz, Tryd.runUnderlying31, Result.andThen_ok]
  simp [Tryd.sizeOf4, Tryd.sizeOf28, Tryd.sizeOf29]
  simp only [Value.cells]
  rw [h]
  rfl
theorem build44 (vs : List (Nat × Value)) (cs : List Value) (w : World) (h : Instr.fill (fun i => ([(0, 1), (1, 1), (2, 1), (3, 1), (4, 1)] : List (Nat × Nat))[i]?) ([.int .i64 0, .slice none 0 0, .int .i64 0, .int .i64 0, .int .i64 0] : List Value).toArray vs = some cs.toArray) : (Instr.build 44 vs.toArray).run Tryd.prog w = .ok (.agg cs.toArray) w := by
  have hz : ∀ w, (zeroValue 44).run Tryd.prog w = .ok (.agg #[.int .i64 0, .slice none 0 0, .int .i64 0, .int .i64 0, .int .i64 0]) w := Tryd.zeroValue44
  simp only [Instr.build, Sem.run_bind, hz, Tryd.runUnderlying44, Result.andThen_ok]
  simp [Tryd.sizeOf3, Tryd.sizeOf42]
  simp only [Value.cells]
  rw [h]
  rfl
theorem build92 (vs : List (Nat × Value)) (cs : List Value) (w : World) (h : Instr.fill (fun i => ([(0, 3), (3, 1), (4, 1), (5, 1), (6, 65), (71, 1), (72, 1), (73, 1)] : List (Nat × Nat))[i]?) ([.slice none 0 0, .slice none 0 0, .bool false, .string ⟨#[]⟩, .slice none 0 0, .slice none 0 0, .int .i64 0, .int .i64 0, .int .i64 0, .int .i64 0, .int .i64 0, .int .i64 0, .int .i64 0, .int .i64 0, .int .i64 0, .int .i64 0, .int .i64 0, .int .i64 0, .int .i64 0, .int .i64 0, .int .i64 0, .int .i64 0, .int .i64 0, .int .i64 0, .int .i64 0, .int .i64 0, .int .i64 0, .int .i64 0, .int .i64 0, .int .i64 0, .int .i64 0, .int .i64 0, .int .i64 0, .int .i64 0, .int .i64 0, .int .i64 0, .int .i64 0, .int .i64 0, .int .i64 0, .int .i64 0, .int .i64 0, .int .i64 0, .int .i64 0, .int .i64 0, .int .i64 0, .int .i64 0, .int .i64 0, .int .i64 0, .int .i64 0, .int .i64 0, .int .i64 0, .int .i64 0, .int .i64 0, .int .i64 0, .int .i64 0, .int .i64 0, .int .i64 0, .int .i64 0, .int .i64 0, .int .i64 0, .int .i64 0, .int .i64 0, .int .i64 0, .int .i64 0, .int .i64 0, .int .i64 0, .int .i64 0, .int .i64 0, .int .i64 0, .int .i64 0, .int .i64 0, .int .i64 0, .int .i64 0, .slice none 0 0] : List Value).toArray vs = some cs.toArray) : (Instr.build 92 vs.toArray).run Tryd.prog w = .ok (.agg cs.toArray) w := by
  have hz : ∀ w, (zeroValue 92).run Tryd.prog w = .ok (.agg #[.slice none 0 0, .slice none 0 0, .bool false, .string ⟨#[]⟩, .slice none 0 0, .slice none 0 0, .int .i64 0, .int .i64 0, .int .i64 0, .int .i64 0, .int .i64 0, .int .i64 0, .int .i64 0, .int .i64 0, .int .i64 0, .int .i64 0, .int .i64 0, .int .i64 0, .int .i64 0, .int .i64 0, .int .i64 0, .int .i64 0, .int .i64 0, .int .i64 0, .int .i64 0, .int .i64 0, .int .i64 0, .int .i64 0, .int .i64 0, .int .i64 0, .int .i64 0, .int .i64 0, .int .i64 0, .int .i64 0, .int .i64 0, .int .i64 0, .int .i64 0, .int .i64 0, .int .i64 0, .int .i64 0, .int .i64 0, .int .i64 0, .int .i64 0, .int .i64 0, .int .i64 0, .int .i64 0, .int .i64 0, .int .i64 0, .int .i64 0, .int .i64 0, .int .i64 0, .int .i64 0, .int .i64 0, .int .i64 0, .int .i64 0, .int .i64 0, .int .i64 0, .int .i64 0, .int .i64 0, .int .i64 0, .int .i64 0, .int .i64 0, .int .i64 0, .int .i64 0, .int .i64 0, .int .i64 0, .int .i64 0, .int .i64 0, .int .i64 0, .int .i64 0, .int .i64 0, .int .i64 0, .int .i64 0, .slice none 0 0]) w := Tryd.zeroValue92
  simp only [Instr.build, Sem.run_bind, hz, Tryd.runUnderlying92, Result.andThen_ok]
  simp [Tryd.sizeOf3, Tryd.sizeOf9, Tryd.sizeOf24, Tryd.sizeOf31, Tryd.sizeOf72, Tryd.sizeOf89, Tryd.sizeOf90]
  simp only [Value.cells]
  rw [h]
  rfl
theorem build164 (vs : List (Nat × Value)) (cs : List Value) (w : World) (h : Instr.fill (fun i => some (i, 1)) (Tryd.zeroCells164.toList : List Value).toArray vs = some cs.toArray) : (Instr.build 164 vs.toArray).run Tryd.prog w = .ok (.agg cs.toArray) w := by
  have hz : ∀ w, (zeroValue 164).run Tryd.prog w = .ok (.agg Tryd.zeroCells164) w := Tryd.zeroValue164
  simp only [Instr.build, Sem.run_bind, hz, Tryd.runUnderlying164, Result.andThen_ok]
  simp [Tryd.sizeOf4]
  simp only [Value.cells]
  rw [h]
  rfl
theorem build167 (vs : List (Nat × Value)) (cs : List Value) (w : World) (h : Instr.fill (fun i => ([(0, 1), (1, 1), (2, 1), (3, 1)] : List (Nat × Nat))[i]?) ([.int .i64 0, .int .i64 0, .int .i64 0, .slice none 0 0] : List Value).toArray vs = some cs.toArray) : (Instr.build 167 vs.toArray).run Tryd.prog w = .ok (.agg cs.toArray) w := by
  have hz : ∀ w, (zeroValue 167).run Tryd.prog w = .ok (.agg #[.int .i64 0, .int .i64 0, .int .i64 0, .slice none 0 0]) w := Tryd.zeroValue167
  simp only [Instr.build, Sem.run_bind, hz, Tryd.runUnderlying167, Result.andThen_ok]
  simp [Tryd.sizeOf3, Tryd.sizeOf24]
  simp only [Value.cells]
  rw [h]
  rfl
theorem sameInts {F : Hp} {w : World} {A B : Option Addr} {n m c d : Nat} {xs ys : List Int} (hF : Sub F (hp w)) (hx : RdI F .i64 A n xs) (hy : RdI F .i64 B m ys) (hn : n ≤ 1000000000) (hm : m ≤ 1000000000) :
    Calls Tryd.prog 16 [.slice A n c, .slice B m d].toArray w (fun e w' => e = .returned (.bool (decide (xs = ys))) ∧ Ext w w') := by
  replace hx := hx.mono hF
  replace hy := hy.mono hF
  have hxl := hx.len
  have hyl := hy.len
  refine enter' 26 Tryd.func16 Tryd.ntmps16 rfl rfl (cSeq (cReg (tQ rfl (qAssign rfl) (tEnd (xThen (cSeq (cSeq (cReg (tQ rfl (qMove rfl) (tQ rfl (qLen Tryd.runUnderlying24 rfl rfl) (tQ rfl (qMove rfl) (tQ rfl (qLen Tryd.runUnderlying24 rfl rfl) (tQ rfl (qNe rfl rfl) (tEnd (xThen ?_)))))))))))))))
  refine cIf rfl (fun c10 => ?_) (fun c10 => ?_)
  · refine cSeq (cReg (tQ rfl (qAssign rfl) (tEnd (xThen (cRet (xRetThen ?_))))))
    refine xRet1 _ Tryd.results16 rfl fun w' s => ⟨?_, s.toExt (Sub.refl _)⟩
    have : xs ≠ ys := fun e => by
      subst e
      simp at c10; omega
    simp [this]
  · refine cSkip (xThen (cSeq (cSeq ?_)))
    have hnm : n = m := by simp at c10; omega
    subst hnm
    refine cReg (tQ rfl (qAssign rfl) (tEnd (xThen (cBlock (cLoop (⟨fun (k : Nat) => [(0, .slice A n c), (1, .slice B n d), (5, .int .i64 k)], fun (k : Nat) => hp w, fun (k : Nat) => [], fun (k : Nat) => k ≤ n ∧ xs.take k = ys.take k, fun (k : Nat) => n - k⟩ : LI (Nat)) (loopStart _ 0 (by simp) (le_of ⟨rfl, rfl, rfl, trivial⟩) (fun _ s => s)) ?_)))))
    rintro k ⟨hk1, hk2⟩
    refine cSeq (cSeq (cReg (tQ rfl (qMove rfl) (tQ rfl (qMove rfl) (tQ rfl (qLen Tryd.runUnderlying24 rfl rfl) (tQ rfl (qLt rfl rfl) (tEnd (xThen ?_))))))))
    refine cIf rfl (fun c14 => ?_) (fun c14 => ?_)
    · refine cSkip (xThen (cSeq (cBlock (cSeq ?_))))
      have hlt : k < n := by simpa using c14
      obtain ⟨b1, o1, rfl, h1⟩ := hx.at_ (by omega)
      obtain ⟨b2, o2, rfl, h2⟩ := hy.at_ (by omega)
      refine cDrawM 8 [(0, true), (1, true), (2, true), (3, true), (4, true), (5, true), (6, true), (7, true)] Tryd.mixed (by kernel_rfl) (fun _ _ _ _ _ h => h) (dQ rfl rfl (qMove rfl) (fun _ s => s) (dQ rfl rfl (qMove rfl) (fun _ s => s) (dQ rfl rfl (qIdxAddr Tryd.runUnderlying24 Tryd.sizeOf3 rfl rfl rfl (by omega)) (fun _ s => s) (dQ rfl rfl (qLd1 Tryd.isAgg3 rfl (h1 _ hlt)) (fun _ s => s) (dQ rfl rfl (qMove rfl) (fun _ s => s) (dQ rfl rfl (qMove rfl) (fun _ s => s) (dQ rfl rfl (qIdxAddr Tryd.runUnderlying24 Tryd.sizeOf3 rfl rfl rfl (by omega)) (fun _ s => s) (dQ rfl rfl (qLd1 Tryd.isAgg3 rfl (h2 _ hlt)) (fun _ s => s) (dEnd (tQ rfl (qNe rfl rfl) (tEnd (xThen ?_))))))))))))
      refine cIf rfl (fun c25 => ?_) (fun c25 => ?_)
      · refine cSeq (cReg (tQ rfl (qAssign rfl) (tEnd (xThen (cRet (xRetBlock (xRetThen (xRetThen (xRetBlock (xRetThen ?_))))))))))
        refine xRet1 _ Tryd.results16 rfl fun w' s => ⟨?_, s.toExt (Sub.refl _)⟩
        have : xs ≠ ys := fun e => by
          subst e
          simp at c25
        simp [this]
      · refine cSkip (xBlock (xThen (cReg (tQ rfl (qMove rfl) (tQ rfl (qAdd rfl rfl (w64 (by omega) (by omega))) (tQ rfl (qAssign rfl) (tEnd ?_)))))))
        refine xRound _ (k + 1) ?_ (by dsimp only; omega) (le_of ⟨rfl, rfl, rfl, trivial⟩) (fun _ s => s)
        refine ⟨by omega, ?_⟩
        rw [List.take_add_one, List.take_add_one, hk2, List.getElem?_eq_getElem (by omega), List.getElem?_eq_getElem (by omega), gZ_at, gZ_at]
        simp at c25
        rw [c25]
    · refine cExit (xExitThen (xExitThen (xExitBlock (xThen (cSeq (cReg (tQ rfl (qAssign rfl) (tEnd (xThen (cRet ?_))))))))))
      refine xRet1 _ Tryd.results16 rfl fun w' s => ⟨?_, s.toExt (Sub.refl _)⟩
      have hk : k = n := by simp at c14; omega
      have : xs = ys := by
        rw [List.take_of_length_le (by omega), List.take_of_length_le (by omega)] at hk2
        exact hk2
      simp [this]


def blocksC : List Value := [.int .i64 0, .int .i64 55295, .int .i64 57344, .int .i64 1114111, .int .i64 1114240, .int .i64 1114367]

theorem blocks_ {w : World} :
    Calls Tryd.prog 179 ([] : List Value).toArray w (fun e w' => ∃ v, e = .returned v ∧ Ext w w' ∧ ∃ h', Fresh w w' h' ∧ ∃ b, v = .slice (some ⟨b, 0, none⟩) 3 3 ∧ h' b = some (.cells blocksC.toArray 243 (0, 0))) := by
  refine Calls.mono (enter (R := fun v w' => Ext w w' ∧ ∃ h', Fresh w w' h' ∧ ∃ b, v = .slice (some ⟨b, 0, none⟩) 3 3 ∧ h' b = some (.cells blocksC.toArray 243 (0, 0))) 5 Tryd.func179 Tryd.ntmps179 rfl rfl (WS.start w) ?_) (fun e w' ⟨v, h1, h2⟩ => ⟨v, h1, h2⟩)
  refine cSeq (cReg (tQ rfl (qAssign rfl) (tEnd (xThen (cSeq (cReg (tQ rfl (qBuildS build243 (cs := [_, _]) rfl rfl) (tQ rfl (qBuildS build243 (cs := [_, _]) rfl rfl) (tQ rfl (qBuildS build243 (cs := [_, _]) rfl rfl) (tBuildSlice rfl Tryd.runUnderlying240 Tryd.sizeOf243 Tryd.zeroValue243 rfl rfl rfl rfl (cs := [_, _, _, _, _, _]) fun b4 => (tQ rfl (qAssign rfl) (tEnd (xThen (cRet ?_))))))))))))))
  refine xRet1 _ Tryd.results179 rfl fun w' s => ⟨s.toExt (Sub.refl _), ?_⟩
  obtain ⟨_, h1, rfl⟩ := s.get 0 rfl b4 rfl
  exact ⟨one b4 _, one_fresh h1 (new_of_off (Sub.refl _) (s.off _ (.head _) b4 rfl)), b4, rfl, by simp [one, blocksC]⟩


theorem band_of {u : Int} {k : Nat} (hk : k < 3) (h1 : (gR bandL k).lo ≤ u) (h2 : u ≤ (gR bandL k).hi) : band u = (k : Int) := by
  have : k = 0 ∨ k = 1 ∨ k = 2 := by omega
  rcases this with rfl | rfl | rfl <;> simp [gR, bandL] at h1 h2 <;> rcases band_cases u with h | h | h | h <;> omega
theorem band_none {u : Int} (h : ∀ j, j < 3 → ¬ ((gR bandL j).lo ≤ u ∧ u ≤ (gR bandL j).hi)) : band u = -1 := by
  have h0 := h 0 (by omega); have h1 := h 1 (by omega); have h2 := h 2 (by omega)
  simp [gR, bandL] at h0 h1 h2
  rcases band_cases u with h | h | h | h <;> omega
theorem blocks_cells {h : Hp} {b : Nat} (hb : h b = some (.cells blocksC.toArray 243 (0, 0))) : ∀ k, k < 3 → at1 h b (0 + k * 2 + 0) = some (.int .i64 (gR bandL k).lo) ∧ at1 h b (0 + k * 2 + 1) = some (.int .i64 (gR bandL k).hi) := by
  intro k hk
  have : k = 0 ∨ k = 1 ∨ k = 2 := by omega
  simp only [at1, hb]
  rcases this with rfl | rfl | rfl <;> exact ⟨rfl, rfl⟩

theorem block_ {w : World} {u : Int} (hu : I32 u) :
    Calls Tryd.prog 165 [.int .i32 u].toArray w (fun e w' => e = .returned (.int .i64 (band u)) ∧ Ext w w') := by
  obtain ⟨hu1, hu2⟩ := hu
  refine enter' 31 Tryd.func165 Tryd.ntmps165 rfl rfl (cSeq (cReg (tQ rfl (qAssign rfl) (tEnd (xThen (cSeq (cReg (tCallF rfl Tryd.call179 (first := []) (captured := []) rfl rfl (Φ := fun v h => ∃ b, v = .slice (some ⟨b, 0, none⟩) 3 3 ∧ h b = some (.cells blocksC.toArray 243 (0, 0))) (fun _ _ _ hs ⟨b, h1, h2⟩ => ⟨b, h1, hs _ _ h2⟩) (fun w' s => blocks_) fun v F' hF' hv => ?_))))))))
  obtain ⟨b, rfl, hb⟩ := hv
  have hcs := blocks_cells (from_sub _ _ _ _ hb)
  clear hb
  refine tQ rfl (qAssign rfl) (tEnd (xThen (cSeq (cSeq (cReg (tQ rfl (qAssign rfl) (tEnd (xThen (cBlock (cLoop (⟨fun (k : Nat) => [(0, .int .i32 u), (3, .slice (some ⟨b, 0, none⟩) 3 3), (4, .int .i64 k)], fun (k : Nat) => F', fun (k : Nat) => [], fun (k : Nat) => k ≤ 3 ∧ ∀ j, j < k → ¬ ((gR bandL j).lo ≤ u ∧ u ≤ (gR bandL j).hi), fun (k : Nat) => 3 - k⟩ : LI (Nat)) (loopStart _ 0 ⟨by omega, fun j hj => by omega⟩ (le_of ⟨rfl, rfl, rfl, trivial⟩) (fun _ s => s)) ?_))))))))))
  rintro k ⟨hk, hno⟩
  refine cSeq (cSeq (cReg (tQ rfl (qMove rfl) (tQ rfl (qMove rfl) (tQ rfl (qLen Tryd.runUnderlying240 rfl rfl) (tQ rfl (qLt rfl rfl) (tEnd (xThen ?_))))))))
  refine cIf rfl (fun c9 => ?_) (fun c9 => ?_)
  · refine cSkip (xThen (cSeq (cBlock (cSeq ?_))))
    have hlt : k < 3 := by simp at c9; omega
    refine cReg (tQ rfl (qMove rfl) (tQ rfl (qConv Tryd.runUnderlying21 Tryd.runUnderlying3 rfl (w64 (by omega) (by omega))) (tQ rfl (qMove rfl) (tQ rfl (qMove rfl) (tQ rfl (qIdxAddr Tryd.runUnderlying240 Tryd.sizeOf243 rfl rfl rfl (by omega)) (tQ rfl (qFieldAddr Tryd.runUnderlying243 rfl Tryd.sizeOf3 rfl rfl rfl) (tQ rfl (qLd1 Tryd.isAgg3 rfl (hcs k hlt).1) (tQ rfl (qGe rfl rfl) (tQ rfl (qMove rfl) ?_)))))))))
    refine tCase 20 rfl (fun g20 => ?_) (fun g20 => ?_)
    · refine tGo rfl rfl (tQ rfl (qMove rfl) (tGo rfl rfl (tQ rfl (qConv Tryd.runUnderlying21 Tryd.runUnderlying3 rfl (w64 (by omega) (by omega))) (tGo rfl rfl (tQ rfl (qMove rfl) (tGo rfl rfl (tQ rfl (qMove rfl) (tGo rfl rfl (tQ rfl (qIdxAddr Tryd.runUnderlying240 Tryd.sizeOf243 rfl rfl rfl (by omega)) (tGo rfl rfl (tQ rfl (qFieldAddr Tryd.runUnderlying243 rfl Tryd.sizeOf3 rfl rfl rfl) ?_)))))))))))
      refine tGo rfl rfl (tQ rfl (qLd1 Tryd.isAgg3 rfl (hcs k hlt).2) (tGo rfl rfl (tQ rfl (qLe rfl rfl) (tQ rfl (qPickT rfl rfl) (tEnd (xThen ?_))))))
      refine cIf rfl (fun c29 => ?_) (fun c29 => ?_)
      · refine cSeq (cReg (tQ rfl (qMove rfl) (tQ rfl (qAssign rfl) (tEnd (xThen (cRet (xRetBlock (xRetThen (xRetThen (xRetBlock (xRetThen ?_)))))))))))
        refine xRet1 _ Tryd.results165 rfl fun w' s => ⟨?_, s.toExt hF'⟩
        simp at *
        rw [band_of hlt (by omega) (by omega)]
      · refine cSkip (xBlock (xThen (cReg (tQ rfl (qMove rfl) (tQ rfl (qAdd rfl rfl (w64 (by omega) (by omega))) (tQ rfl (qAssign rfl) (tEnd ?_)))))))
        refine xRound _ (k + 1) ?_ (by dsimp only; omega) (le_of ⟨rfl, rfl, rfl, trivial⟩) (fun _ s => s)
        exact ⟨by omega, fun j hj => by
          rcases Nat.lt_or_ge j k with h | h
          · exact hno j h
          · obtain rfl : j = k := by omega
            simp at *; omega⟩
    · refine tNo rfl rfl rfl rfl (tNo rfl rfl rfl rfl (tNo rfl rfl rfl rfl (tNo rfl rfl rfl rfl (tNo rfl rfl rfl rfl (tNo rfl rfl rfl rfl (tNo rfl rfl rfl rfl (tNo rfl rfl rfl rfl (tQ rfl (qPickF rfl rfl) (tEnd (xThen (cIfF rfl (cSkip (xBlock (xThen (cReg ?_)))))))))))))))
      refine tQ rfl (qMove rfl) (tQ rfl (qAdd rfl rfl (w64 (by omega) (by omega))) (tQ rfl (qAssign rfl) (tEnd ?_)))
      refine xRound _ (k + 1) ?_ (by dsimp only; omega) (le_of ⟨rfl, rfl, rfl, trivial⟩) (fun _ s => s)
      exact ⟨by omega, fun j hj => by
        rcases Nat.lt_or_ge j k with h | h
        · exact hno j h
        · obtain rfl : j = k := by omega
          simp at *; omega⟩
  · refine cExit (xExitThen (xExitThen (xExitBlock (xThen (cSeq (cReg (tQ rfl (qAssign rfl) (tEnd (xThen (cRet ?_))))))))))
    refine xRet1 _ Tryd.results165 rfl fun w' s => ⟨?_, s.toExt hF'⟩
    have : k = 3 := by simp at c9; omega
    subst this
    rw [band_none hno]


theorem setE_bad {rs : List Rng} {k : Nat} (hk : k < rs.length) (h : ¬ okR rs k) : setE rs = 1 := by
  unfold setE; rw [if_neg (fun hs => h (hs k hk))]
theorem setE_ok {rs : List Rng} (h : ∀ k, k < rs.length → okR rs k) : setE rs = 0 := by
  unfold setE; rw [if_pos (show setOk rs from h)]

theorem check02 {F : Hp} {w : World} {A : Option Addr} {n c : Nat} {rs : List Rng} (hF : Sub F (hp w)) (hx : RdR F A n rs) (hn : n ≤ 1000000000) :
    Calls Tryd.prog 141 [.slice A n c].toArray w (fun e w' => e = .returned (.int .i64 (setE rs)) ∧ Ext w w') := by
  replace hx := hx.mono hF
  have hxl := hx.len
  refine enter' 61 Tryd.func141 Tryd.ntmps141 rfl rfl (cSeq (cReg (tQ rfl (qAssign rfl) (tEnd (xThen (cSeq (cSeq (cReg (tQ rfl (qAssign rfl) (tEnd (xThen (cBlock (cLoop (⟨fun (k : Nat) => [(0, .slice A n c), (3, .int .i64 k)], fun (k : Nat) => hp w, fun (k : Nat) => [], fun (k : Nat) => k ≤ n ∧ ∀ j, j < k → okR rs j, fun (k : Nat) => n - k⟩ : LI (Nat)) (loopStart _ 0 ⟨by omega, fun j hj => by omega⟩ (le_of ⟨rfl, rfl, trivial⟩) (fun _ s => s)) ?_)))))))))))))
  rintro k ⟨hk, hok⟩
  refine cSeq (cSeq (cReg (tQ rfl (qMove rfl) (tQ rfl (qMove rfl) (tQ rfl (qLen Tryd.runUnderlying42 rfl rfl) (tQ rfl (qLt rfl rfl) (tEnd (xThen ?_))))))))
  refine cIf rfl (fun c8 => ?_) (fun c8 => ?_)
  · refine cSkip (xThen (cSeq (cBlock (cSeq ?_))))
    have hlt : k < n := by simp at c8; omega
    obtain ⟨b, o, rfl, hN, hlo, hhi, hwf⟩ := hx.open_ hlt
    obtain ⟨⟨q1, q2⟩, q3, q4⟩ := hwf k hlt
    refine cReg (tQ rfl (qMove rfl) (tQ rfl (qMove rfl) (tQ rfl (qIdxAddr Tryd.runUnderlying42 Tryd.sizeOf54 rfl rfl rfl (by omega)) (tQ rfl (qFieldAddr Tryd.runUnderlying54 rfl Tryd.sizeOf21 rfl rfl rfl) (tQ rfl (qLd1 Tryd.isAgg21 rfl (hlo k hlt)) (tCallQ rfl Tryd.call165 (first := []) (captured := []) rfl rfl (fun w' s => block_ ⟨by omega, by omega⟩) (tQ rfl (qAssign rfl) (tEnd (xThen (cSeq (cSeq (cDrawM 24 [(0, true), (1, true), (2, true), (3, true), (4, true), (5, true), (6, true), (7, true), (8, true), (9, false), (10, true), (11, true), (12, true), (13, true), (14, true), (15, true), (16, true), (17, true), (18, true), (19, true), (20, true), (21, true), (22, true), (23, true)] Tryd.mixed (by kernel_rfl) (fun _ _ _ _ _ h => h) (dQ rfl rfl (qMove rfl) (fun _ s => s) (dQ rfl rfl (qLt rfl rfl) (fun _ s => s) ?_))))))))))))))
    refine dQ rfl rfl (qMove rfl) (fun _ s => s) ?_
    refine dCase 19 rfl (fun g19 => ?_) (fun g19 => ?_)
    · refine dQno rfl rfl rfl rfl rfl (fun _ s => s) (dQno rfl rfl rfl rfl rfl (fun _ s => s) (dQno rfl rfl rfl rfl rfl (fun _ s => s) (dQno rfl rfl rfl rfl rfl (fun _ s => s) (dQno rfl rfl rfl rfl rfl (fun _ s => s) (dQno rfl rfl rfl rfl rfl (fun _ s => s) (dEno rfl rfl rfl rfl rfl (fun _ s => s) (dQno rfl rfl rfl rfl rfl (fun _ s => s) (dQ rfl rfl (qPickT rfl rfl) (fun _ s => s) (dQ rfl rfl (qMove rfl) (fun _ s => s) (dQno rfl rfl rfl rfl rfl (fun _ s => s) (dQno rfl rfl rfl rfl rfl (fun _ s => s) ?_)))))))))))
      refine dQno rfl rfl rfl rfl rfl (fun _ s => s) (dQno rfl rfl rfl rfl rfl (fun _ s => s) (dQno rfl rfl rfl rfl rfl (fun _ s => s) (dQno rfl rfl rfl rfl rfl (fun _ s => s) (dQno rfl rfl rfl rfl rfl (fun _ s => s) (dQno rfl rfl rfl rfl rfl (fun _ s => s) (dQno rfl rfl rfl rfl rfl (fun _ s => s) (dQno rfl rfl rfl rfl rfl (fun _ s => s) (dQno rfl rfl rfl rfl rfl (fun _ s => s) (dEnd (tQ rfl (qPickT rfl rfl) (tEnd (xThen ?_))))))))))))
      refine cIfT rfl (cSeq (cReg (tQ rfl (qAssign rfl) (tEnd (xThen (cRet (xRetThen (xRetBlock (xRetThen (xRetThen (xRetBlock (xRetThen ?_))))))))))))
      refine xRet1 _ Tryd.results141 rfl fun w' s => ⟨?_, s.toExt (Sub.refl _)⟩
      rw [setE_bad (k := k) (by omega) (by unfold okR; simp only [decide_eq_true_eq, decide_eq_false_iff_not, bne_iff_ne, beq_iff_eq, beq_eq_false_iff_ne, bne_eq_false_iff_eq, Bool.not_eq_true', Bool.not_eq_false', ne_eq, Bool.not_true, Bool.not_false] at *; omega)]
    · refine dQgo rfl rfl rfl rfl (qMove rfl) (fun _ s => s) (dQgo rfl rfl rfl rfl (qMove rfl) (fun _ s => s) (dQgo rfl rfl rfl rfl (qMove rfl) (fun _ s => s) (dQgo rfl rfl rfl rfl (qIdxAddr Tryd.runUnderlying42 Tryd.sizeOf54 rfl rfl rfl (by omega)) (fun _ s => s) (dQgo rfl rfl rfl rfl (qFieldAddr Tryd.runUnderlying54 rfl Tryd.sizeOf21 rfl rfl rfl) (fun _ s => s) (dQgo rfl rfl rfl rfl (qLd1 Tryd.isAgg21 rfl (hhi k hlt)) (fun _ s => s) (dCallQgo rfl rfl rfl rfl Tryd.call165 (first := []) (captured := []) rfl rfl (fun w' s => block_ ⟨by omega, by omega⟩) (fun _ s => s) (dQgo rfl rfl rfl rfl (qNe rfl rfl) (fun _ s => s) (dQ rfl rfl (qPickF rfl rfl) (fun _ s => s) (dQ rfl rfl (qMove rfl) (fun _ s => s) ?_)))))))))
      refine dCase 29 rfl (fun g29 => ?_) (fun g29 => ?_)
      · refine dQno rfl rfl rfl rfl rfl (fun _ s => s) (dQno rfl rfl rfl rfl rfl (fun _ s => s) (dQno rfl rfl rfl rfl rfl (fun _ s => s) (dQno rfl rfl rfl rfl rfl (fun _ s => s) (dQno rfl rfl rfl rfl rfl (fun _ s => s) (dQno rfl rfl rfl rfl rfl (fun _ s => s) (dQno rfl rfl rfl rfl rfl (fun _ s => s) (dQno rfl rfl rfl rfl rfl (fun _ s => s) (dQno rfl rfl rfl rfl rfl (fun _ s => s) (dQno rfl rfl rfl rfl rfl (fun _ s => s) (dQno rfl rfl rfl rfl rfl (fun _ s => s) (dEnd ?_)))))))))))
        refine tQ rfl (qPickT rfl rfl) (tEnd (xThen (cIfT rfl (cSeq (cReg (tQ rfl (qAssign rfl) (tEnd (xThen (cRet (xRetThen (xRetBlock (xRetThen (xRetThen (xRetBlock (xRetThen ?_)))))))))))))))
        refine xRet1 _ Tryd.results141 rfl fun w' s => ⟨?_, s.toExt (Sub.refl _)⟩
        rw [setE_bad (k := k) (by omega) (by unfold okR; simp only [decide_eq_true_eq, decide_eq_false_iff_not, bne_iff_ne, beq_iff_eq, beq_eq_false_iff_ne, bne_eq_false_iff_eq, Bool.not_eq_true', Bool.not_eq_false', ne_eq, Bool.not_true, Bool.not_false] at *; omega)]
      · refine dQgo rfl rfl rfl rfl (qMove rfl) (fun _ s => s) (dQgo rfl rfl rfl rfl (qMove rfl) (fun _ s => s) (dQgo rfl rfl rfl rfl (qIdxAddr Tryd.runUnderlying42 Tryd.sizeOf54 rfl rfl rfl (by omega)) (fun _ s => s) (dQgo rfl rfl rfl rfl (qFieldAddr Tryd.runUnderlying54 rfl Tryd.sizeOf21 rfl rfl rfl) (fun _ s => s) (dQgo rfl rfl rfl rfl (qLd1 Tryd.isAgg21 rfl (hlo k hlt)) (fun _ s => s) (dQgo rfl rfl rfl rfl (qMove rfl) (fun _ s => s) (dQgo rfl rfl rfl rfl (qMove rfl) (fun _ s => s) (dQgo rfl rfl rfl rfl (qIdxAddr Tryd.runUnderlying42 Tryd.sizeOf54 rfl rfl rfl (by omega)) (fun _ s => s) (dQgo rfl rfl rfl rfl (qFieldAddr Tryd.runUnderlying54 rfl Tryd.sizeOf21 rfl rfl rfl) (fun _ s => s) (dQgo rfl rfl rfl rfl (qLd1 Tryd.isAgg21 rfl (hhi k hlt)) (fun _ s => s) (dQgo rfl rfl rfl rfl (qGt rfl rfl) (fun _ s => s) (dEnd ?_)))))))))))
        refine tQ rfl (qPickF rfl rfl) (tEnd (xThen ?_))
        refine cIf rfl (fun c41 => ?_) (fun c41 => ?_)
        · refine cSeq (cReg (tQ rfl (qAssign rfl) (tEnd (xThen (cRet (xRetThen (xRetBlock (xRetThen (xRetThen (xRetBlock (xRetThen ?_)))))))))))
          refine xRet1 _ Tryd.results141 rfl fun w' s => ⟨?_, s.toExt (Sub.refl _)⟩
          rw [setE_bad (k := k) (by omega) (by unfold okR; simp only [decide_eq_true_eq, decide_eq_false_iff_not, bne_iff_ne, beq_iff_eq, beq_eq_false_iff_ne, bne_eq_false_iff_eq, Bool.not_eq_true', Bool.not_eq_false', ne_eq, Bool.not_true, Bool.not_false] at *; omega)]
        · refine cSkip (xThen (cSeq (cDrawM 18 [(0, true), (1, true), (2, true), (3, true), (4, true), (5, true), (6, true), (7, true), (8, true), (9, true), (10, true), (11, true), (12, true), (13, true), (14, true), (15, true), (16, true), (17, true)] Tryd.mixed (by kernel_rfl) (fun _ _ _ _ _ h => h) (dQ rfl rfl (qMove rfl) (fun _ s => s) (dQ rfl rfl (qGt rfl rfl) (fun _ s => s) (dQ rfl rfl (qMove rfl) (fun _ s => s) ?_))))))
          refine dCase 44 rfl (fun g44 => ?_) (fun g44 => ?_)
          · have hk0 : 0 < k := by simp at g44; omega
            obtain ⟨⟨q5, q6⟩, q7, q8⟩ := hwf (k - 1) (by omega)
            refine dQgo rfl rfl rfl rfl (qMove rfl) (fun _ s => s) (dQgo rfl rfl rfl rfl (qMove rfl) (fun _ s => s) (dQgo rfl rfl rfl rfl (qIdxAddr Tryd.runUnderlying42 Tryd.sizeOf54 rfl rfl rfl (by omega)) (fun _ s => s) (dQgo rfl rfl rfl rfl (qFieldAddr Tryd.runUnderlying54 rfl Tryd.sizeOf21 rfl rfl rfl) (fun _ s => s) (dQgo rfl rfl rfl rfl (qLd1 Tryd.isAgg21 rfl (hlo k hlt)) (fun _ s => s) (dQgo rfl rfl rfl rfl (qConv Tryd.runUnderlying21 Tryd.runUnderlying3 rfl (w64 (by omega) (by omega))) (fun _ s => s) (dQgo rfl rfl rfl rfl (qMove rfl) (fun _ s => s) (dQgo rfl rfl rfl rfl (qMove rfl) (fun _ s => s) (dQgo rfl rfl rfl rfl (qSub rfl rfl (w64 (by omega) (by omega))) (fun _ s => s) (dQgo rfl rfl rfl rfl (qIdxAddr Tryd.runUnderlying42 Tryd.sizeOf54 rfl rfl (j := k - 1) (by omega) (by omega)) (fun _ s => s) (dQgo rfl rfl rfl rfl (qFieldAddr Tryd.runUnderlying54 rfl Tryd.sizeOf21 rfl rfl rfl) (fun _ s => s) (dQgo rfl rfl rfl rfl (qLd1 Tryd.isAgg21 rfl (hhi (k - 1) (by omega))) (fun _ s => s) ?_)))))))))))
            refine dQgo rfl rfl rfl rfl (qConv Tryd.runUnderlying21 Tryd.runUnderlying3 rfl (w64 (by omega) (by omega))) (fun _ s => s) (dQgo rfl rfl rfl rfl (qAdd rfl rfl (w64 (by omega) (by omega))) (fun _ s => s) (dQgo rfl rfl rfl rfl (qLe rfl rfl) (fun _ s => s) (dEnd (tQ rfl (qPickT rfl rfl) (tEnd (xThen ?_))))))
            refine cIf rfl (fun c60 => ?_) (fun c60 => ?_)
            · refine cSeq (cReg (tQ rfl (qAssign rfl) (tEnd (xThen (cRet (xRetBlock (xRetThen (xRetThen (xRetBlock (xRetThen ?_))))))))))
              refine xRet1 _ Tryd.results141 rfl fun w' s => ⟨?_, s.toExt (Sub.refl _)⟩
              rw [setE_bad (k := k) (by omega) (by unfold okR; simp only [decide_eq_true_eq, decide_eq_false_iff_not, bne_iff_ne, beq_iff_eq, beq_eq_false_iff_ne, bne_eq_false_iff_eq, Bool.not_eq_true', Bool.not_eq_false', ne_eq, Bool.not_true, Bool.not_false] at *; omega)]
            · refine cSkip (xBlock (xThen (cReg (tQ rfl (qMove rfl) (tQ rfl (qAdd rfl rfl (w64 (by omega) (by omega))) (tQ rfl (qAssign rfl) (tEnd ?_)))))))
              refine xRound _ (k + 1) ?_ (by dsimp only; omega) (le_of ⟨rfl, rfl, trivial⟩) (fun _ s => s)
              refine ⟨by omega, fun j hj => ?_⟩
              rcases Nat.lt_or_ge j k with h | h
              · exact hok j h
              · obtain rfl : j = k := by omega
                unfold okR
                simp only [decide_eq_true_eq, decide_eq_false_iff_not, bne_iff_ne, beq_iff_eq, beq_eq_false_iff_ne, bne_eq_false_iff_eq, Bool.not_eq_true', Bool.not_eq_false', ne_eq, Bool.not_true, Bool.not_false] at *
                omega
          · refine dQno rfl rfl rfl rfl rfl (fun _ s => s) (dQno rfl rfl rfl rfl rfl (fun _ s => s) (dQno rfl rfl rfl rfl rfl (fun _ s => s) (dQno rfl rfl rfl rfl rfl (fun _ s => s) (dQno rfl rfl rfl rfl rfl (fun _ s => s) (dQno rfl rfl rfl rfl rfl (fun _ s => s) (dQno rfl rfl rfl rfl rfl (fun _ s => s) (dQno rfl rfl rfl rfl rfl (fun _ s => s) (dQno rfl rfl rfl rfl rfl (fun _ s => s) (dQno rfl rfl rfl rfl rfl (fun _ s => s) (dQno rfl rfl rfl rfl rfl (fun _ s => s) (dQno rfl rfl rfl rfl rfl (fun _ s => s) ?_)))))))))))
            refine dQno rfl rfl rfl rfl rfl (fun _ s => s) (dQno rfl rfl rfl rfl rfl (fun _ s => s) (dQno rfl rfl rfl rfl rfl (fun _ s => s) (dEnd (tQ rfl (qPickF rfl rfl) (tEnd (xThen (cIfF rfl (cSkip (xBlock (xThen (cReg (tQ rfl (qMove rfl) (tQ rfl (qAdd rfl rfl (w64 (by omega) (by omega))) (tQ rfl (qAssign rfl) (tEnd ?_)))))))))))))))
            refine xRound _ (k + 1) ?_ (by dsimp only; omega) (le_of ⟨rfl, rfl, trivial⟩) (fun _ s => s)
            refine ⟨by omega, fun j hj => ?_⟩
            rcases Nat.lt_or_ge j k with h | h
            · exact hok j h
            · obtain rfl : j = k := by omega
              unfold okR
              simp only [decide_eq_true_eq, decide_eq_false_iff_not, bne_iff_ne, beq_iff_eq, beq_eq_false_iff_ne, bne_eq_false_iff_eq, Bool.not_eq_true', Bool.not_eq_false', ne_eq, Bool.not_true, Bool.not_false] at *
              omega
  · refine cExit (xExitThen (xExitThen (xExitBlock (xThen (cSeq (cReg (tQ rfl (qAssign rfl) (tEnd (xThen (cRet ?_))))))))))
    refine xRet1 _ Tryd.results141 rfl fun w' s => ⟨?_, s.toExt (Sub.refl _)⟩
    have : k = n := by simp at c8; omega
    subst this
    rw [setE_ok (by rw [hxl]; exact hok)]

theorem bandF {F : Hp} {w : World} {b : Nat} {u lo hi : Int} (hF : Sub F (hp w)) (hu : at1 F b 0 = some (.int .i32 u)) :
    Calls Tryd.prog 177 [.agg [.int .i32 lo, .int .i32 hi].toArray, .pointer (some ⟨b, 0, none⟩)].toArray w (fun e w' => e = .returned (.bool (decide (lo ≤ u ∧ u ≤ hi))) ∧ Ext w w') := by
  replace hu := at1_mono hF hu
  refine enter' 14 Tryd.func177 Tryd.ntmps177 rfl rfl (cSeq (cReg (tBox rfl rfl rfl (cs := [_, _]) fun b2 => (tQ rfl (qAssign rfl) (tEnd (xThen (cSeq (cReg (tQ rfl (qFieldAddr Tryd.runUnderlying54 rfl Tryd.sizeOf21 rfl rfl rfl) (tQ rfl (qLd1M 0 Tryd.isAgg21 rfl rfl rfl) (tQ rfl (qLd1 Tryd.isAgg21 rfl hu) (tQ rfl (qLe rfl rfl) (tQ rfl (qMove rfl) ?_)))))))))))))
  refine tCase 8 rfl (fun g8 => ?_) (fun g8 => ?_)
  · refine tGo rfl rfl (tQ rfl (qLd1 Tryd.isAgg21 rfl hu) (tGo rfl rfl (tQ rfl (qFieldAddr Tryd.runUnderlying54 rfl Tryd.sizeOf21 rfl rfl rfl) (tGo rfl rfl (tQ rfl (qLd1M 0 Tryd.isAgg21 rfl rfl rfl) (tGo rfl rfl (tQ rfl (qLe rfl rfl) (tQ rfl (qPickT rfl rfl) (tQ rfl (qAssign rfl) (tEnd (xThen (cRet ?_))))))))))))
    refine xRet1 _ Tryd.results177 rfl fun w' s => ⟨congrArg Value.bool ?_, s.toExt (Sub.refl _)⟩
    rw [Bool.eq_iff_iff]
    simp at g8 ⊢
    omega
  · refine tNo rfl rfl rfl rfl (tNo rfl rfl rfl rfl (tNo rfl rfl rfl rfl (tNo rfl rfl rfl rfl (tQ rfl (qPickF rfl rfl) (tQ rfl (qAssign rfl) (tEnd (xThen (cRet ?_))))))))
    refine xRet1 _ Tryd.results177 rfl fun w' s => ⟨congrArg Value.bool ?_, s.toExt (Sub.refl _)⟩
    rw [Bool.eq_iff_iff]
    simp at g8 ⊢
    omega

theorem indexBand {F : Hp} {w : World} {b : Nat} {u : Int} (hF : Sub F (hp w)) (hT : T F) (hu : at1 F b 0 = some (.int .i32 u)) :
    Calls Tryd.prog 176 [.slice (some ⟨2, 0, none⟩) 3 3, .func (.func 177) #[] #[.pointer (some ⟨b, 0, none⟩)]].toArray w (fun e w' => e = .returned (.int .i64 (band u)) ∧ Ext w w') := by
  replace hu := at1_mono hF hu
  obtain ⟨b0, o0, e0, hN, -⟩ := (hT.mono hF).bands.open_ (show 0 < 3 by omega)
  cases e0
  refine enter' 19 Tryd.func176 Tryd.ntmps176 rfl rfl (cSeq (cReg (tQ rfl (qAssign rfl) (tEnd (xThen (cSeq (cSeq (cReg (tQ rfl (qMove rfl) (tQ rfl (qLen Tryd.runUnderlying42 rfl rfl) (tQ rfl (qMove rfl) (tEnd (xThen (cBlock (cLoop (⟨fun (k : Nat) => [(0, .slice (some ⟨2, 0, none⟩) 3 3), (1, .func (.func 177) #[] #[.pointer (some ⟨b, 0, none⟩)]), (7, .int .i64 3), (8, .int .i64 k)], fun (k : Nat) => hp w, fun (k : Nat) => [], fun (k : Nat) => k ≤ 3 ∧ ∀ j, j < k → ¬ ((gR bandL j).lo ≤ u ∧ u ≤ (gR bandL j).hi), fun (k : Nat) => 3 - k⟩ : LI (Nat)) (loopStart _ 0 ⟨by omega, fun j hj => by omega⟩ (le_of ⟨rfl, rfl, rfl, rfl, trivial⟩) (fun _ s => s)) ?_)))))))))))))))
  rintro k ⟨hk, hno⟩
  refine cSeq (cReg (tQ rfl (qLt rfl rfl) (tEnd (xThen (cSeq ?_)))))
  refine cIf rfl (fun c9 => ?_) (fun c9 => ?_)
  · refine cSkip (xThen (cSeq (cBlock (cSeq ?_))))
    have hlt : k < 3 := by simp at c9; omega
    refine cReg (tQ rfl (qMove rfl) (tQ rfl (qAssign rfl) (tEnd (xThen (cSeq (cReg (tQ rfl (qMove rfl) (tQ rfl (qMove rfl) (tQ rfl (qMove rfl) (tQ rfl (qIdxAddr Tryd.runUnderlying42 Tryd.sizeOf54 rfl rfl rfl (by omega)) (tQ rfl (qLdN Tryd.isAgg54 Tryd.sizeOf54 rfl (hN k hlt)) (tCallQ rfl Tryd.call177 rfl rfl (fun w' s => bandF (F := hp w) s.sub hu) (tEnd (xThen ?_))))))))))))))
    refine cIf rfl (fun c16 => ?_) (fun c16 => ?_)
    · refine cSeq (cReg (tQ rfl (qMove rfl) (tQ rfl (qAssign rfl) (tEnd (xThen (cRet (xRetBlock (xRetThen (xRetThen (xRetBlock (xRetThen ?_)))))))))))
      refine xRet1 _ Tryd.results176 rfl fun w' s => ⟨?_, s.toExt (Sub.refl _)⟩
      simp at c16
      rw [band_of hlt c16.1 c16.2]
    · refine cSkip (xBlock (xThen (cReg (tQ rfl (qAdd rfl rfl (w64 (by omega) (by omega))) (tQ rfl (qMove rfl) (tEnd ?_))))))
      refine xRound _ (k + 1) ?_ (by dsimp only; omega) (le_of ⟨rfl, rfl, rfl, rfl, trivial⟩) (fun _ s => s)
      exact ⟨by omega, fun j hj => by
        rcases Nat.lt_or_ge j k with h | h
        · exact hno j h
        · obtain rfl : j = k := by omega
          simpa using c16⟩
  · refine cExit (xExitThen (xExitThen (xExitBlock (xThen (cSeq (cReg (tQ rfl (qAssign rfl) (tEnd (xThen (cRet ?_))))))))))
    refine xRet1 _ Tryd.results176 rfl fun w' s => ⟨?_, s.toExt (Sub.refl _)⟩
    have : k = 3 := by simp at c9; omega
    subst this
    rw [band_none hno]

theorem band_ {F : Hp} {w : World} {u : Int} (hF : Sub F (hp w)) (hT : T F) :
    Calls Tryd.prog 160 [.int .i32 u].toArray w (fun e w' => e = .returned (.int .i64 (band u)) ∧ Ext w w') := by
  replace hT := hT.mono hF
  refine enter' 6 Tryd.func160 Tryd.ntmps160 rfl rfl (cSeq (cReg (tBox rfl rfl rfl (cs := [_]) fun b1 => (tQ rfl (qAssign rfl) (tEnd (xThen (cSeq (cReg (tQ rfl (qSliceArr Tryd.runUnderlying238 Tryd.sizeOf54 rfl rfl) (tQ rfl (qFunc rfl rfl) (tCallQ rfl Tryd.call176 (first := []) (captured := []) rfl rfl (fun w' s => indexBand (F := hp w') (Sub.refl _) (hT.mono s.sub) (blk_at1 (s.get 0 rfl) rfl)) (tQ rfl (qAssign rfl) (tEnd (xThen (cRet ?_)))))))))))))))
  refine xRet1 _ Tryd.results160 rfl fun w' s => ⟨rfl, s.toExt (Sub.refl _)⟩

theorem checkS {F : Hp} {w : World} {A : Option Addr} {n c : Nat} {rs : List Rng} (hF : Sub F (hp w)) (hT : T F) (hx : RdR F A n rs) (hn : n ≤ 1000000000) :
    Calls Tryd.prog 137 [.slice A n c].toArray w (fun e w' => e = .returned (.int .i64 (setE rs)) ∧ Ext w w') := by
  replace hx := hx.mono hF
  replace hT := hT.mono hF
  have hxl := hx.len
  refine enter' 58 Tryd.func137 Tryd.ntmps137 rfl rfl (cSeq (cReg (tQ rfl (qAssign rfl) (tEnd (xThen (cSeq (cSeq (cReg (tQ rfl (qMove rfl) (tQ rfl (qLen Tryd.runUnderlying42 rfl rfl) (tQ rfl (qMove rfl) (tEnd (xThen (cBlock (cLoop (⟨fun (k : Nat) => [(0, .slice A n c), (6, .slice A n c), (7, .int .i64 n), (8, .int .i64 k)], fun (k : Nat) => hp w, fun (k : Nat) => [], fun (k : Nat) => k ≤ n ∧ ∀ j, j < k → okR rs j, fun (k : Nat) => n - k⟩ : LI (Nat)) (loopStart _ 0 ⟨by omega, fun j hj => by omega⟩ (le_of ⟨rfl, rfl, rfl, rfl, trivial⟩) (fun _ s => s)) ?_)))))))))))))))
  rintro k ⟨hk, hok⟩
  refine cSeq (cReg (tQ rfl (qLt rfl rfl) (tEnd (xThen (cSeq ?_)))))
  refine cIf rfl (fun c9 => ?_) (fun c9 => ?_)
  · refine cSkip (xThen (cSeq (cBlock (cSeq ?_))))
    have hlt : k < n := by simp at c9; omega
    obtain ⟨b, o, rfl, hN, hlo, hhi, hwf⟩ := hx.open_ hlt
    obtain ⟨⟨q1, q2⟩, q3, q4⟩ := hwf k hlt
    refine cReg (tQ rfl (qMove rfl) (tQ rfl (qIdxAddr Tryd.runUnderlying42 Tryd.sizeOf54 rfl rfl rfl (by omega)) (tQ rfl (qLdN Tryd.isAgg54 Tryd.sizeOf54 rfl (hN k hlt)) (tAlloc rfl Tryd.zeroValue54 rfl (cs := [_, _]) fun b4 => (tQ rfl (qAssign rfl) (tStoreN 0 Tryd.sizeOf54 rfl rfl rfl (by simp [Value.oneCell']) rfl (by simp) (tEnd (xThen (cSeq (cReg (tQ rfl (qFieldAddr Tryd.runUnderlying54 rfl Tryd.sizeOf21 rfl rfl rfl) (tQ rfl (qLd1M 0 Tryd.isAgg21 rfl rfl rfl) (tCallQ rfl Tryd.call160 (first := []) (captured := []) rfl rfl (fun w' s => band_ s.sub hT) (tQ rfl (qAssign rfl) ?_))))))))))))))
    refine tEnd (xThen (cSeq (cSeq (cReg (tQ rfl (qMove rfl) (tQ rfl (qLt rfl rfl) (tQ rfl (qMove rfl) ?_)))))))
    refine tCase 18 rfl (fun g18 => ?_) (fun g18 => ?_)
    · refine tNo rfl rfl rfl rfl (tNo rfl rfl rfl rfl (tNo rfl rfl rfl rfl (tNo rfl rfl rfl rfl (tNo rfl rfl rfl rfl (tQ rfl (qPickT rfl rfl) (tQ rfl (qMove rfl) (tNo rfl rfl rfl rfl (tNo rfl rfl rfl rfl (tNo rfl rfl rfl rfl (tNo rfl rfl rfl rfl (tNo rfl rfl rfl rfl ?_)))))))))))
      refine tQ rfl (qPickT rfl rfl) (tEnd (xThen (cIfT rfl (cSeq (cReg (tQ rfl (qAssign rfl) (tEnd (xThen (cRet (xRetThen (xRetBlock (xRetThen (xRetThen (xRetBlock (xRetThen ?_)))))))))))))))
      refine xRet1 _ Tryd.results137 rfl fun w' s => ⟨?_, s.toExt (Sub.refl _)⟩
      rw [setE_bad (k := k) (by omega) (by unfold okR; simp only [decide_eq_true_eq, decide_eq_false_iff_not, bne_iff_ne, beq_iff_eq, beq_eq_false_iff_ne, bne_eq_false_iff_eq, Bool.not_eq_true', Bool.not_eq_false', ne_eq, Bool.not_true, Bool.not_false] at *; omega)]
    · refine tGo rfl rfl (tQ rfl (qMove rfl) (tGo rfl rfl (tQ rfl (qFieldAddr Tryd.runUnderlying54 rfl Tryd.sizeOf21 rfl rfl rfl) (tGo rfl rfl (tQ rfl (qLd1M 0 Tryd.isAgg21 rfl rfl rfl) (tGo rfl rfl (tCallQ rfl Tryd.call160 (first := []) (captured := []) rfl rfl (fun w' s => band_ s.sub hT) (tGo rfl rfl (tQ rfl (qNe rfl rfl) (tQ rfl (qPickF rfl rfl) (tQ rfl (qMove rfl) ?_)))))))))))
      refine tCase 25 rfl (fun g25 => ?_) (fun g25 => ?_)
      · refine tNo rfl rfl rfl rfl (tNo rfl rfl rfl rfl (tNo rfl rfl rfl rfl (tNo rfl rfl rfl rfl (tNo rfl rfl rfl rfl (tQ rfl (qPickT rfl rfl) (tEnd (xThen (cIfT rfl (cSeq (cReg (tQ rfl (qAssign rfl) (tEnd (xThen (cRet (xRetThen (xRetBlock (xRetThen (xRetThen (xRetBlock (xRetThen ?_))))))))))))))))))))
        refine xRet1 _ Tryd.results137 rfl fun w' s => ⟨?_, s.toExt (Sub.refl _)⟩
        rw [setE_bad (k := k) (by omega) (by unfold okR; simp only [decide_eq_true_eq, decide_eq_false_iff_not, bne_iff_ne, beq_iff_eq, beq_eq_false_iff_ne, bne_eq_false_iff_eq, Bool.not_eq_true', Bool.not_eq_false', ne_eq, Bool.not_true, Bool.not_false] at *; omega)]
      · refine tGo rfl rfl (tQ rfl (qFieldAddr Tryd.runUnderlying54 rfl Tryd.sizeOf21 rfl rfl rfl) (tGo rfl rfl (tQ rfl (qLd1M 0 Tryd.isAgg21 rfl rfl rfl) (tGo rfl rfl (tQ rfl (qFieldAddr Tryd.runUnderlying54 rfl Tryd.sizeOf21 rfl rfl rfl) (tGo rfl rfl (tQ rfl (qLd1M 0 Tryd.isAgg21 rfl rfl rfl) (tGo rfl rfl (tQ rfl (qGt rfl rfl) (tQ rfl (qPickF rfl rfl) (tEnd (xThen ?_))))))))))))
        refine cIf rfl (fun c31 => ?_) (fun c31 => ?_)
        · refine cSeq (cReg (tQ rfl (qAssign rfl) (tEnd (xThen (cRet (xRetThen (xRetBlock (xRetThen (xRetThen (xRetBlock (xRetThen ?_)))))))))))
          refine xRet1 _ Tryd.results137 rfl fun w' s => ⟨?_, s.toExt (Sub.refl _)⟩
          rw [setE_bad (k := k) (by omega) (by unfold okR; simp only [decide_eq_true_eq, decide_eq_false_iff_not, bne_iff_ne, beq_iff_eq, beq_eq_false_iff_ne, bne_eq_false_iff_eq, Bool.not_eq_true', Bool.not_eq_false', ne_eq, Bool.not_true, Bool.not_false] at *; omega)]
        · refine cSkip (xThen (cSeq (cDrawM 24 [(0, true), (1, true), (2, true), (3, true), (4, true), (5, true), (6, true), (7, true), (8, true), (9, true), (10, true), (11, true), (12, true), (13, true), (14, true), (15, true), (16, true), (17, true), (18, true), (19, true), (20, true), (21, true), (22, true), (23, true)] Tryd.mixed (by kernel_rfl) (fun _ _ _ _ _ h => h) (dQ rfl rfl (qMove rfl) (fun _ s => s) (dQ rfl rfl (qGt rfl rfl) (fun _ s => s) (dQ rfl rfl (qMove rfl) (fun _ s => s) ?_))))))
          refine dCase 34 rfl (fun g34 => ?_) (fun g34 => ?_)
          · have hk0 : 0 < k := by simp at g34; omega
            obtain ⟨⟨q5, q6⟩, q7, q8⟩ := hwf (k - 1) (by omega)
            have hpr := hok (k - 1) (by omega)
            have hpb := band_le (gR rs (k - 1)).hi (by rw [← hpr.2.1]; exact hpr.1)
            refine dQgo rfl rfl rfl rfl (qFieldAddr Tryd.runUnderlying54 rfl Tryd.sizeOf21 rfl rfl rfl) (fun _ s => s) (dQgo rfl rfl rfl rfl (qLd1M 0 Tryd.isAgg21 rfl rfl rfl) (fun _ s => s) (dQgo rfl rfl rfl rfl (qMove rfl) (fun _ s => s) (dQgo rfl rfl rfl rfl (qMove rfl) (fun _ s => s) (dQgo rfl rfl rfl rfl (qSub rfl rfl (w64 (by omega) (by omega))) (fun _ s => s) (dQgo rfl rfl rfl rfl (qIdxAddr Tryd.runUnderlying42 Tryd.sizeOf54 rfl rfl (j := k - 1) (by omega) (by omega)) (fun _ s => s) (dQgo rfl rfl rfl rfl (qFieldAddr Tryd.runUnderlying54 rfl Tryd.sizeOf21 rfl rfl rfl) (fun _ s => s) (dQgo rfl rfl rfl rfl (qLd1 Tryd.isAgg21 rfl (hhi (k - 1) (by omega))) (fun _ s => s) (dQgo rfl rfl rfl rfl (qLe rfl rfl) (fun _ s => s) (dQgo rfl rfl rfl rfl (qMove rfl) (fun _ s => s) ?_)))))))))
            refine dCase 44 rfl (fun g44 => ?_) (fun g44 => ?_)
            · refine dQno rfl rfl rfl rfl rfl (fun _ s => s) (dQno rfl rfl rfl rfl rfl (fun _ s => s) (dQno rfl rfl rfl rfl rfl (fun _ s => s) (dQno rfl rfl rfl rfl rfl (fun _ s => s) (dQno rfl rfl rfl rfl rfl (fun _ s => s) (dQno rfl rfl rfl rfl rfl (fun _ s => s) (dQno rfl rfl rfl rfl rfl (fun _ s => s) (dQno rfl rfl rfl rfl rfl (fun _ s => s) (dQno rfl rfl rfl rfl rfl (fun _ s => s) (dQno rfl rfl rfl rfl rfl (fun _ s => s) (dQgo rfl rfl rfl rfl (qPickT rfl rfl) (fun _ s => s) (dEnd ?_)))))))))))
              refine tQ rfl (qPickT rfl rfl) (tEnd (xThen (cIfT rfl (cSeq (cReg (tQ rfl (qAssign rfl) (tEnd (xThen (cRet (xRetBlock (xRetThen (xRetThen (xRetBlock (xRetThen ?_))))))))))))))
              refine xRet1 _ Tryd.results137 rfl fun w' s => ⟨?_, s.toExt (Sub.refl _)⟩
              rw [setE_bad (k := k) (by omega) (by unfold okR; simp only [decide_eq_true_eq, decide_eq_false_iff_not, bne_iff_ne, beq_iff_eq, beq_eq_false_iff_ne, bne_eq_false_iff_eq, Bool.not_eq_true', Bool.not_eq_false', ne_eq, Bool.not_true, Bool.not_false] at *; omega)]
            · refine dQgo rfl rfl rfl rfl (qFieldAddr Tryd.runUnderlying54 rfl Tryd.sizeOf21 rfl rfl rfl) (fun _ s => s) (dQgo rfl rfl rfl rfl (qLd1M 0 Tryd.isAgg21 rfl rfl rfl) (fun _ s => s) (dQgo rfl rfl rfl rfl (qMove rfl) (fun _ s => s) (dQgo rfl rfl rfl rfl (qMove rfl) (fun _ s => s) (dQgo rfl rfl rfl rfl (qSub rfl rfl (w64 (by omega) (by omega))) (fun _ s => s) (dQgo rfl rfl rfl rfl (qIdxAddr Tryd.runUnderlying42 Tryd.sizeOf54 rfl rfl (j := k - 1) (by omega) (by omega)) (fun _ s => s) (dQgo rfl rfl rfl rfl (qFieldAddr Tryd.runUnderlying54 rfl Tryd.sizeOf21 rfl rfl rfl) (fun _ s => s) (dQgo rfl rfl rfl rfl (qLd1 Tryd.isAgg21 rfl (hhi (k - 1) (by omega))) (fun _ s => s) (dQgo rfl rfl rfl rfl (qAdd rfl rfl (w32 (by omega) (by omega))) (fun _ s => s) (dQgo rfl rfl rfl rfl (qEq rfl rfl) (fun _ s => s) (dQgo rfl rfl rfl rfl (qPickF rfl rfl) (fun _ s => s) (dEnd ?_)))))))))))
              refine tQ rfl (qPickT rfl rfl) (tEnd (xThen ?_))
              refine cIf rfl (fun c56 => ?_) (fun c56 => ?_)
              · refine cSeq (cReg (tQ rfl (qAssign rfl) (tEnd (xThen (cRet (xRetBlock (xRetThen (xRetThen (xRetBlock (xRetThen ?_))))))))))
                refine xRet1 _ Tryd.results137 rfl fun w' s => ⟨?_, s.toExt (Sub.refl _)⟩
                rw [setE_bad (k := k) (by omega) (by unfold okR; simp only [decide_eq_true_eq, decide_eq_false_iff_not, bne_iff_ne, beq_iff_eq, beq_eq_false_iff_ne, bne_eq_false_iff_eq, Bool.not_eq_true', Bool.not_eq_false', ne_eq, Bool.not_true, Bool.not_false] at *; omega)]
              · refine cSkip (xBlock (xThen (cReg (tQ rfl (qAdd rfl rfl (w64 (by omega) (by omega))) (tQ rfl (qMove rfl) (tEnd ?_))))))
                refine xRound _ (k + 1) ?_ (by dsimp only; omega) (le_of ⟨rfl, rfl, rfl, rfl, trivial⟩) (fun _ s => s.less (List.nil_sublist _))
                refine ⟨by omega, fun j hj => ?_⟩
                rcases Nat.lt_or_ge j k with h | h
                · exact hok j h
                · obtain rfl : j = k := by omega
                  unfold okR
                  simp only [decide_eq_true_eq, decide_eq_false_iff_not, bne_iff_ne, beq_iff_eq, beq_eq_false_iff_ne, bne_eq_false_iff_eq, Bool.not_eq_true', Bool.not_eq_false', ne_eq, Bool.not_true, Bool.not_false] at *
                  omega
          · refine dQno rfl rfl rfl rfl rfl (fun _ s => s) (dQno rfl rfl rfl rfl rfl (fun _ s => s) (dQno rfl rfl rfl rfl rfl (fun _ s => s) (dQno rfl rfl rfl rfl rfl (fun _ s => s) (dQno rfl rfl rfl rfl rfl (fun _ s => s) (dQno rfl rfl rfl rfl rfl (fun _ s => s) (dQno rfl rfl rfl rfl rfl (fun _ s => s) (dQno rfl rfl rfl rfl rfl (fun _ s => s) (dQno rfl rfl rfl rfl rfl (fun _ s => s) (dQno rfl rfl rfl rfl rfl (fun _ s => s) (dQnoU rfl rfl rfl rfl (fun _ s => s) (dQnoU rfl rfl rfl rfl (fun _ s => s) ?_)))))))))))
            refine dQnoU rfl rfl rfl rfl (fun _ s => s) (dQnoU rfl rfl rfl rfl (fun _ s => s) (dQnoU rfl rfl rfl rfl (fun _ s => s) (dQnoU rfl rfl rfl rfl (fun _ s => s) (dQnoU rfl rfl rfl rfl (fun _ s => s) (dQnoU rfl rfl rfl rfl (fun _ s => s) (dQnoU rfl rfl rfl rfl (fun _ s => s) (dQnoU rfl rfl rfl rfl (fun _ s => s) (dQno rfl rfl rfl rfl rfl (fun _ s => s) (dEnd (tQ rfl (qPickF rfl rfl) (tEnd (xThen ?_))))))))))))
            refine cIfF rfl (cSkip (xBlock (xThen (cReg (tQ rfl (qAdd rfl rfl (w64 (by omega) (by omega))) (tQ rfl (qMove rfl) (tEnd ?_)))))))
            refine xRound _ (k + 1) ?_ (by dsimp only; omega) (le_of ⟨rfl, rfl, rfl, rfl, trivial⟩) (fun _ s => s.less (List.nil_sublist _))
            refine ⟨by omega, fun j hj => ?_⟩
            rcases Nat.lt_or_ge j k with h | h
            · exact hok j h
            · obtain rfl : j = k := by omega
              unfold okR
              simp only [decide_eq_true_eq, decide_eq_false_iff_not, bne_iff_ne, beq_iff_eq, beq_eq_false_iff_ne, bne_eq_false_iff_eq, Bool.not_eq_true', Bool.not_eq_false', ne_eq, Bool.not_true, Bool.not_false] at *
              omega
  · refine cExit (xExitThen (xExitThen (xExitBlock (xThen (cSeq (cReg (tQ rfl (qAssign rfl) (tEnd (xThen (cRet ?_))))))))))
    refine xRet1 _ Tryd.results137 rfl fun w' s => ⟨?_, s.toExt (Sub.refl _)⟩
    have : k = n := by simp at c9; omega
    subst this
    rw [setE_ok (by rw [hxl]; exact hok)]

end Go.V
namespace Go.V
open Go.Proofs
set_option linter.unusedVariables false
set_option linter.unusedSimpArgs false

theorem char01 {w : World} {s : ByteArray} {p : Nat} (hlt : p < s.size) (hs : s.size ≤ 1000000000) :
    Calls Tryd.prog 52 [.string s, .int .i64 p].toArray w (fun e w' => e = .returned (.tuple #[.int .i32 (chr s p).1, .int .i64 (chr s p).2]) ∧ Ext w w') := by
  have hb := B_lt s p
  refine enter' 84 Tryd.func52 Tryd.ntmps52 rfl rfl (cSeq (cReg (tQ rfl (qAssign rfl) (tQ rfl (qAssign rfl) (tEnd (xThen (cSeq (cReg (tQ rfl (qMove rfl) (tQ rfl (qMove rfl) (tQ rfl (qIdxStrB Tryd.runUnderlying9 rfl rfl (j := p) (by omega) (by omega)) (tQ rfl (qConv Tryd.runUnderlying5 Tryd.runUnderlying3 rfl (w64 (by omega) (by omega))) (tQ rfl (qAssign rfl) (tEnd (xThen (cSeq (cSeq (cReg (tQ rfl (qMove rfl) ?_)))))))))))))))))))
  refine tQ rfl (qLt rfl rfl) (tEnd (xThen ?_))
  refine cIf rfl (fun c17 => ?_) (fun c17 => ?_)
  · refine cSeq (cReg (tQ rfl (qMove rfl) (tQ rfl (qConv Tryd.runUnderlying3 Tryd.runUnderlying21 rfl (w32 (by omega) (by omega))) (tQ rfl (qAssign rfl) (tQ rfl (qAssign rfl) (tEnd (xThen (cRet (xRetThen ?_)))))))))
    refine xRet2 _ _ Tryd.results52 rfl rfl fun w' s' => ⟨?_, s'.toExt (Sub.refl _)⟩
    rw [chr_ascii (by simp at c17; omega)]
    all_goals rfl
  · refine cSkip (xThen (cSeq (cReg (tQ rfl (qAssign rfl) (tQ rfl (qAssign rfl) (tEnd (xThen (cSeq (cReg (tQ rfl (qMove rfl) (tQ rfl (qSub rfl rfl (w64 (by omega) (by omega))) (tQ rfl (qAssign rfl) (tEnd (xThen ?_))))))))))))))
    refine cCut (⟨fun ⟨n, l, v⟩ => [(0, .string s), (1, .int .i64 p), (6, .int .i64 (B s p)), (7, .int .i64 n), (8, .int .i64 l), (9, .int .i64 v)], fun ⟨n, l, v⟩ => hp w, fun ⟨n, l, v⟩ => [], fun ⟨n, l, v⟩ => (224 ≤ B s p → n = 3 ∧ l = 2048 ∧ v = (B s p : Int) - 224) ∧ (B s p < 224 → n = 2 ∧ l = 128 ∧ v = (B s p : Int) - 192), fun ⟨n, l, v⟩ => 0⟩ : LI (Nat × Nat × Int)) ?_ ?_
    · refine cSeq (cReg (tQ rfl (qMove rfl) (tQ rfl (qGe rfl rfl) (tEnd (xThen ?_)))))
      refine cIf rfl (fun c23 => ?_) (fun c23 => ?_)
      · refine cSeq (cReg (tQ rfl (qAssign rfl) (tQ rfl (qAssign rfl) (tEnd (xThen (cReg (tQ rfl (qMove rfl) (tQ rfl (qSub rfl rfl (w64 (by omega) (by omega))) (tQ rfl (qAssign rfl) (tEnd ?_))))))))))
        refine xMeet _ (3, 2048, (B s p : Int) - 224) ?_ (le_of ⟨rfl, rfl, rfl, rfl, rfl, rfl, trivial⟩) (fun _ s => s)
        simp at c23
        dsimp only
        omega
      · refine cSkip ?_
        refine xMeet _ (2, 128, (B s p : Int) - 192) ?_ (le_of ⟨rfl, rfl, rfl, rfl, rfl, rfl, trivial⟩) (fun _ s => s)
        simp at c23
        dsimp only
        omega
    · rintro ⟨n, l, v⟩ ⟨hc1, hc2⟩
      refine cCut (⟨fun ⟨n, l, v⟩ => [(0, .string s), (1, .int .i64 p), (6, .int .i64 (B s p)), (7, .int .i64 n), (8, .int .i64 l), (9, .int .i64 v)], fun ⟨n, l, v⟩ => hp w, fun ⟨n, l, v⟩ => [], fun ⟨n, l, v⟩ => n = nOf (B s p) ∧ l = leastOf (B s p) ∧ v = (B s p : Int) - baseOf (B s p), fun ⟨n, l, v⟩ => 0⟩ : LI (Nat × Nat × Int)) ?_ ?_
      · refine cSeq (cReg (tQ rfl (qMove rfl) (tQ rfl (qGe rfl rfl) (tEnd (xThen ?_)))))
        refine cIf rfl (fun c27 => ?_) (fun c27 => ?_)
        · refine cSeq (cReg (tQ rfl (qAssign rfl) (tQ rfl (qAssign rfl) (tEnd (xThen (cReg (tQ rfl (qMove rfl) (tQ rfl (qSub rfl rfl (w64 (by omega) (by omega))) (tQ rfl (qAssign rfl) (tEnd ?_))))))))))
          refine xMeet _ (4, 65536, (B s p : Int) - 240) ?_ (le_of ⟨rfl, rfl, rfl, rfl, rfl, rfl, trivial⟩) (fun _ s => s)
          simp at c27
          dsimp only
          have := nOf_cases (B s p)
          omega
        · refine cSkip ?_
          refine xMeet _ (n, l, v) ?_ (le_of ⟨rfl, rfl, rfl, rfl, rfl, rfl, trivial⟩) (fun _ s => s)
          simp at c27
          dsimp only
          have := nOf_cases (B s p)
          omega
      · rintro ⟨n, l, v⟩ ⟨rfl, rfl, rfl⟩
        refine cSeq (cSeq ?_)
        have hnc := nOf_cases (B s p)
        refine cReg (tQ rfl (qMove rfl) (tQ rfl (qLt rfl rfl) (tQ rfl (qMove rfl) ?_)))
        refine tCase 32 rfl (fun g32 => ?_) (fun g32 => ?_)
        · refine tNo rfl rfl rfl rfl (tNo rfl rfl rfl rfl (tQ rfl (qPickT rfl rfl) (tQ rfl (qMove rfl) (tNo rfl rfl rfl rfl (tNo rfl rfl rfl rfl (tNo rfl rfl rfl rfl (tNo rfl rfl rfl rfl (tNo rfl rfl rfl rfl (tNo rfl rfl rfl rfl (tQ rfl (qPickT rfl rfl) (tEnd (xThen ?_))))))))))))
          refine cIfT rfl (cSeq (cReg (tQ rfl (qAssign rfl) (tQ rfl (qAssign rfl) (tEnd (xThen (cRet (xRetThen ?_))))))))
          refine xRet2 _ _ Tryd.results52 rfl rfl fun w' s' => ⟨?_, s'.toExt (Sub.refl _)⟩
          rw [chr_bad (by simp at c17; omega) (by simp at *; omega)]
          all_goals rfl
        · refine tGo rfl rfl (tQ rfl (qMove rfl) (tGo rfl rfl (tQ rfl (qGe rfl rfl) (tQ rfl (qPickF rfl rfl) (tQ rfl (qMove rfl) ?_)))))
          refine tCase 36 rfl (fun g36 => ?_) (fun g36 => ?_)
          · refine tNo rfl rfl rfl rfl (tNo rfl rfl rfl rfl (tNo rfl rfl rfl rfl (tNo rfl rfl rfl rfl (tNo rfl rfl rfl rfl (tNo rfl rfl rfl rfl (tQ rfl (qPickT rfl rfl) (tEnd (xThen (cIfT rfl (cSeq (cReg (tQ rfl (qAssign rfl) (tQ rfl (qAssign rfl) ?_)))))))))))))
            refine tEnd (xThen (cRet (xRetThen ?_)))
            refine xRet2 _ _ Tryd.results52 rfl rfl fun w' s' => ⟨?_, s'.toExt (Sub.refl _)⟩
            rw [chr_bad (by simp at c17; omega) (by simp at *; omega)]
            all_goals rfl
          · refine tGo rfl rfl (tQ rfl (qMove rfl) (tGo rfl rfl (tQ rfl (qMove rfl) (tGo rfl rfl (tQ rfl (qAdd rfl rfl (w64 (by omega) (by omega))) (tGo rfl rfl (tQ rfl (qMove rfl) (tGo rfl rfl (tQ rfl (qLenStr Tryd.runUnderlying9 rfl rfl) (tGo rfl rfl (tQ rfl (qGt rfl rfl) ?_)))))))))))
            refine tQ rfl (qPickF rfl rfl) (tEnd (xThen ?_))
            refine cIf rfl (fun c43 => ?_) (fun c43 => ?_)
            · refine cSeq (cReg (tQ rfl (qAssign rfl) (tQ rfl (qAssign rfl) (tEnd (xThen (cRet (xRetThen ?_)))))))
              refine xRet2 _ _ Tryd.results52 rfl rfl fun w' s' => ⟨?_, s'.toExt (Sub.refl _)⟩
              rw [chr_bad (by simp at c17; omega) (by simp at *; omega)]
              all_goals rfl
            · refine cSkip (xThen (cSeq (cSeq ?_)))
              have hin : ¬ (B s p < 192 ∨ 248 ≤ B s p ∨ s.size < p + nOf (B s p)) := by simp at *; omega
              obtain ⟨v, hv⟩ : ∃ k : Nat, (B s p : Int) - baseOf (B s p) = (k : Int) := ⟨B s p - baseOf (B s p), by omega⟩
              rw [hv]
              have h1 : ¬ B s p < 128 := by omega
              refine cReg (tQ rfl (qAssign rfl) (tEnd (xThen (cBlock (cLoop (⟨fun ⟨i, v⟩ => [(0, .string s), (1, .int .i64 p), (7, .int .i64 (nOf (B s p))), (8, .int .i64 (leastOf (B s p))), (9, .int .i64 v), (10, .int .i64 i)], fun ⟨i, v⟩ => hp w, fun ⟨i, v⟩ => [], fun ⟨i, v⟩ => 1 ≤ i ∧ i ≤ nOf (B s p) ∧ tailV s (p + 1) (nOf (B s p) - 1) (B s p - baseOf (B s p)) = tailV s (p + i) (nOf (B s p) - i) v ∧ (i = 1 → v < 64) ∧ (i = 2 → v < 4096) ∧ (i = 3 → v < 262144) ∧ v < 16777216, fun ⟨i, v⟩ => nOf (B s p) - i⟩ : LI (Nat × Nat)) (loopStart _ (1, v) ⟨Nat.le_refl _, by first | omega | (dsimp only; omega), by rw [show v = B s p - baseOf (B s p) by omega], by first | omega | (dsimp only; omega), by first | omega | (dsimp only; omega), by first | omega | (dsimp only; omega), by first | omega | (dsimp only; omega)⟩ (le_of ⟨rfl, rfl, rfl, rfl, rfl, rfl, trivial⟩) (fun _ s => s)) ?_)))))
              rintro ⟨i, v⟩ ⟨hi1, hi2, ht, hv1, hv2, hv3, hv4⟩
              refine cSeq (cSeq (cReg (tQ rfl (qMove rfl) (tQ rfl (qMove rfl) (tQ rfl (qLt rfl rfl) (tEnd (xThen ?_)))))))
              refine cIf rfl (fun c46 => ?_) (fun c46 => ?_)
              · refine cSkip (xThen (cSeq (cBlock (cSeq ?_))))
                have hbi := B_lt s (p + i)
                have hlti : i < nOf (B s p) := by simp at c46; omega
                refine cReg (tQ rfl (qMove rfl) (tQ rfl (qMove rfl) (tQ rfl (qMove rfl) (tQ rfl (qAdd rfl rfl (w64 (by omega) (by omega))) (tQ rfl (qIdxStrB Tryd.runUnderlying9 rfl rfl (j := p + i) (by omega) (by omega)) (tQ rfl (qConv Tryd.runUnderlying5 Tryd.runUnderlying3 rfl (w64 (by omega) (by omega))) (tQ rfl (qAssign rfl) (tEnd (xThen (cSeq (cSeq (cReg (tQ rfl (qMove rfl) (tQ rfl (qLt rfl rfl) (tQ rfl (qMove rfl) ?_)))))))))))))))
                refine tCase 57 rfl (fun g57 => ?_) (fun g57 => ?_)
                · refine tNo rfl rfl rfl rfl (tNo rfl rfl rfl rfl (tQ rfl (qPickT rfl rfl) (tEnd (xThen (cIfT rfl (cSeq (cReg (tQ rfl (qAssign rfl) (tQ rfl (qAssign rfl) (tEnd (xThen (cRet (xRetThen (xRetBlock (xRetThen (xRetThen (xRetBlock (xRetThen ?_))))))))))))))))))
                  refine xRet2 _ _ Tryd.results52 rfl rfl fun w' s' => ⟨?_, s'.toExt (Sub.refl _)⟩
                  rw [chr_none h1 hin (by
                    rw [ht, show nOf (B s p) - i = (nOf (B s p) - (i + 1)) + 1 by omega]
                    simp only [tailV]
                    rw [if_neg (by simp at *; omega)])]
                  all_goals rfl
                · refine tGo rfl rfl (tQ rfl (qMove rfl) (tGo rfl rfl (tQ rfl (qGt rfl rfl) (tQ rfl (qPickF rfl rfl) (tEnd (xThen ?_))))))
                  refine cIf rfl (fun c60 => ?_) (fun c60 => ?_)
                  · refine cSeq (cReg (tQ rfl (qAssign rfl) (tQ rfl (qAssign rfl) (tEnd (xThen (cRet (xRetThen (xRetBlock (xRetThen (xRetThen (xRetBlock (xRetThen ?_))))))))))))
                    refine xRet2 _ _ Tryd.results52 rfl rfl fun w' s' => ⟨?_, s'.toExt (Sub.refl _)⟩
                    rw [chr_none h1 hin (by
                      rw [ht, show nOf (B s p) - i = (nOf (B s p) - (i + 1)) + 1 by omega]
                      simp only [tailV]
                      rw [if_neg (by simp at *; omega)])]
                    all_goals rfl
                  · refine cSkip (xThen ?_)
                    simp at g57 c60
                    refine cReg (tQ rfl (qMove rfl) (tQ rfl (qMul rfl rfl (w64 (by omega) (by omega))) (tQ rfl (qMove rfl) (tQ rfl (qAdd rfl rfl (w64 (by omega) (by omega))) (tQ rfl (qSub rfl rfl (c := ((v * 64 + B s (p + i) - 128 : Nat) : Int)) (by rw [w64 (by omega) (by omega)]; omega)) (tQ rfl (qAssign rfl) (tEnd (xBlock (xThen (cReg (tQ rfl (qMove rfl) (tQ rfl (qAdd rfl rfl (w64 (by omega) (by omega))) (tQ rfl (qAssign rfl) (tEnd ?_))))))))))))))
                    refine xRound _ (i + 1, v * 64 + B s (p + i) - 128) ?_ (by dsimp only; omega) (le_of ⟨rfl, rfl, rfl, rfl, rfl, rfl, trivial⟩) (fun _ s => s)
                    refine ⟨by first | omega | (dsimp only; omega), by first | omega | (dsimp only; omega), ?_, by first | omega | (dsimp only; omega), by first | omega | (dsimp only; omega), by first | omega | (dsimp only; omega), by first | omega | (dsimp only; omega)⟩
                    rw [ht, show nOf (B s p) - i = (nOf (B s p) - (i + 1)) + 1 by omega]
                    simp only [tailV]
                    rw [if_pos (by omega)]
                    rfl
              · refine cExit (xExitThen (xExitThen (xExitBlock (xThen (cSeq (cSeq (cReg (tQ rfl (qMove rfl) (tQ rfl (qMove rfl) (tQ rfl (qLt rfl rfl) (tQ rfl (qMove rfl) ?_)))))))))))
                refine tCase 69 rfl (fun g69 => ?_) (fun g69 => ?_)
                · refine tNo rfl rfl rfl rfl (tNo rfl rfl rfl rfl (tQ rfl (qPickT rfl rfl) (tQ rfl (qMove rfl) (tNo rfl rfl rfl rfl (tNo rfl rfl rfl rfl (tNo rfl rfl rfl rfl (tNoU rfl rfl rfl (tNoU rfl rfl rfl (tNo rfl rfl rfl rfl (tQ rfl (qPickT rfl rfl) (tEnd (xThen ?_))))))))))))
                  refine cIfT rfl (cSeq (cReg (tQ rfl (qAssign rfl) (tQ rfl (qAssign rfl) (tEnd (xThen (cRet (xRetThen ?_))))))))
                  have hin2 : i = nOf (B s p) := by simp at c46; omega
                  subst hin2
                  rw [Nat.sub_self] at ht
                  refine xRet2 _ _ Tryd.results52 rfl rfl fun w' s' => ⟨?_, s'.toExt (Sub.refl _)⟩
                  rw [chr_low h1 hin ht (by simp at *; omega)]
                  all_goals rfl
                · refine tGo rfl rfl (tQ rfl (qMove rfl) (tGo rfl rfl (tQ rfl (qGt rfl rfl) (tQ rfl (qPickF rfl rfl) (tQ rfl (qMove rfl) ?_)))))
                  refine tCase 73 rfl (fun g73 => ?_) (fun g73 => ?_)
                  · refine tNo rfl rfl rfl rfl (tNo rfl rfl rfl rfl (tNo rfl rfl rfl rfl (tNoU rfl rfl rfl (tNoU rfl rfl rfl (tNo rfl rfl rfl rfl (tQ rfl (qPickT rfl rfl) (tEnd (xThen (cIfT rfl (cSeq (cReg (tQ rfl (qAssign rfl) (tQ rfl (qAssign rfl) ?_)))))))))))))
                    refine tEnd (xThen (cRet (xRetThen ?_)))
                    have hin2 : i = nOf (B s p) := by simp at c46; omega
                    subst hin2
                    rw [Nat.sub_self] at ht
                    refine xRet2 _ _ Tryd.results52 rfl rfl fun w' s' => ⟨?_, s'.toExt (Sub.refl _)⟩
                    rw [chr_low h1 hin ht (by simp at *; omega)]
                    all_goals rfl
                  · refine tGo rfl rfl (tQ rfl (qMove rfl) (tGo rfl rfl (tQ rfl (qGe rfl rfl) (tGo rfl rfl (tQ rfl (qMove rfl) ?_)))))
                    refine tCase 76 rfl (fun g76 => ?_) (fun g76 => ?_)
                    · refine tGo rfl rfl (tQ rfl (qMove rfl) (tGo rfl rfl (tQ rfl (qLe rfl rfl) (tGo rfl rfl (tQ rfl (qPickT rfl rfl) (tQ rfl (qPickF rfl rfl) (tEnd (xThen ?_))))))))
                      refine cIf rfl (fun c80 => ?_) (fun c80 => ?_)
                      · refine cSeq (cReg (tQ rfl (qAssign rfl) (tQ rfl (qAssign rfl) (tEnd (xThen (cRet (xRetThen ?_)))))))
                        have hin2 : i = nOf (B s p) := by simp at c46; omega
                        subst hin2
                        rw [Nat.sub_self] at ht
                        refine xRet2 _ _ Tryd.results52 rfl rfl fun w' s' => ⟨?_, s'.toExt (Sub.refl _)⟩
                        rw [chr_low h1 hin ht (by simp at *; omega)]
                        all_goals rfl
                      · refine cSkip (xThen (cSeq (cReg (tQ rfl (qMove rfl) (tQ rfl (qConv Tryd.runUnderlying3 Tryd.runUnderlying21 rfl (w32 (by omega) (by omega))) (tQ rfl (qMove rfl) (tQ rfl (qAssign rfl) (tQ rfl (qAssign rfl) (tEnd (xThen (cRet ?_)))))))))))
                        have hin2 : i = nOf (B s p) := by simp at c46; omega
                        subst hin2
                        rw [Nat.sub_self] at ht
                        refine xRet2 _ _ Tryd.results52 rfl rfl fun w' s' => ⟨?_, s'.toExt (Sub.refl _)⟩
                        rw [chr_val h1 hin ht (by simp at *; omega)]
                        all_goals rfl
                    · refine tNo rfl rfl rfl rfl (tNo rfl rfl rfl rfl (tGo rfl rfl (tQ rfl (qPickF rfl rfl) (tQ rfl (qPickF rfl rfl) (tEnd (xThen (cIfF rfl (cSkip (xThen (cSeq (cReg (tQ rfl (qMove rfl) (tQ rfl (qConv Tryd.runUnderlying3 Tryd.runUnderlying21 rfl (w32 (by omega) (by omega))) (tQ rfl (qMove rfl) (tQ rfl (qAssign rfl) ?_)))))))))))))))
                      refine tQ rfl (qAssign rfl) (tEnd (xThen (cRet ?_)))
                      have hin2 : i = nOf (B s p) := by simp at c46; omega
                      subst hin2
                      rw [Nat.sub_self] at ht
                      refine xRet2 _ _ Tryd.results52 rfl rfl fun w' s' => ⟨?_, s'.toExt (Sub.refl _)⟩
                      rw [chr_val h1 hin ht (by simp at *; omega)]
                      all_goals rfl

theorem unit01 {w : World} {s : ByteArray} {p : Nat} (hlt : p < s.size) (hs : s.size ≤ 1000000000) :
    Calls Tryd.prog 133 [.string s, .int .i64 p].toArray w (fun e w' => e = .returned (.tuple #[.int .i32 (unt s p).1, .int .i64 (unt s p).2]) ∧ Ext w w') := by
  have hb := B_lt s p
  have hcl := chr_le s p
  refine enter' 24 Tryd.func133 Tryd.ntmps133 rfl rfl (cSeq (cReg (tQ rfl (qAssign rfl) (tQ rfl (qAssign rfl) (tEnd (xThen (cSeq (cReg (tQ rfl (qMove rfl) (tQ rfl (qMove rfl) (tCallQ rfl Tryd.call52 (first := []) (captured := []) rfl rfl (fun w' s' => char01 hlt hs) (tQ rfl (qMove rfl) (tQ rfl (qExtract rfl rfl) (tQ rfl (qExtract rfl rfl) (tQ rfl (qAssign rfl) ?_)))))))))))))))
  refine tQ rfl (qAssign rfl) (tEnd (xThen (cSeq (cSeq (cReg (tQ rfl (qMove rfl) (tQ rfl (qEq rfl rfl) (tEnd (xThen ?_)))))))))
  refine cIf rfl (fun c15 => ?_) (fun c15 => ?_)
  · refine cSeq (cReg (tQ rfl (qMove rfl) (tQ rfl (qMove rfl) (tQ rfl (qIdxStrB Tryd.runUnderlying9 rfl rfl (j := p) (by omega) (by omega)) (tQ rfl (qConv Tryd.runUnderlying5 Tryd.runUnderlying3 rfl (w64 (by omega) (by omega))) (tQ rfl (qAdd rfl rfl (w64 (by omega) (by omega))) (tQ rfl (qConv Tryd.runUnderlying3 Tryd.runUnderlying21 rfl (w32 (by omega) (by omega))) (tQ rfl (qAssign rfl) (tQ rfl (qAssign rfl) (tEnd (xThen (cRet (xRetThen ?_)))))))))))))
    refine xRet2 _ _ Tryd.results133 rfl rfl fun w' s' => ⟨?_, s'.toExt (Sub.refl _)⟩
    have hz : (chr s p).2 = 0 := by simp at c15; omega
    unfold unt
    rw [if_pos hz]
    all_goals rfl
  · refine cSkip (xThen (cSeq (cReg (tQ rfl (qMove rfl) (tQ rfl (qMove rfl) (tQ rfl (qAssign rfl) (tQ rfl (qAssign rfl) (tEnd (xThen (cRet ?_))))))))))
    refine xRet2 _ _ Tryd.results133 rfl rfl fun w' s' => ⟨?_, s'.toExt (Sub.refl _)⟩
    have hz : (chr s p).2 ≠ 0 := by simp at c15; omega
    unfold unt
    rw [if_neg hz]


/-- Two rows: the places, the units. -/
def AllC (s : ByteArray) (v : Value) (C : List Chunk) : Prop := ∃ A cA D cD, v = .tuple #[rowV A (pairs s).length cA, rowV D (pairs s).length cD] ∧ (A = none → cA = 0 ∧ (pairs s).length = 0) ∧ (D = none → cD = 0 ∧ (pairs s).length = 0) ∧
  C = [row A cA 3 1 ((pairs s).map fun x => .int .i64 (x.1 : Nat)), row D cD 21 1 ((pairs s).map fun x => .int .i32 (x.2 : Nat))]
theorem all01 {w : World} {s : ByteArray} (hs : s.size ≤ 1000000000) :
    Calls Tryd.prog 152 [.string s].toArray w (fun e w' => ∃ v, e = .returned v ∧ ∃ C, Own w w' C ∧ AllC s v C) := by
  refine Calls.mono (enter (R := fun v w' => ∃ C, Own w w' C ∧ AllC s v C) 32 Tryd.func152 Tryd.ntmps152 rfl rfl (WS.start w) ?_) (fun e w' ⟨v, h1, h2⟩ => ⟨v, h1, h2⟩)
  refine cSeq (cReg (tQ rfl (qAssign rfl) (tQ rfl (qAssign rfl) (tEnd (xThen (cSeq (cReg (tQ rfl (qAssign rfl) (tEnd (xThen (cSeq (cReg (tQ rfl (qAssign rfl) (tEnd (xThen (cSeq (cNilRow 21 1 (cNilRow 3 1 (cReg (tQ rfl (qAssign rfl) ?_))))))))))))))))))))
  refine tEnd (xThen (cSeq (cBlock (cLoop (⟨fun ⟨at_, L, A, cA, D, cD⟩ => [(0, .string s), (4, rowV A L.length cA), (5, rowV D L.length cD), (6, .int .i64 at_)], fun ⟨at_, L, A, cA, D, cD⟩ => hp w, fun ⟨at_, L, A, cA, D, cD⟩ => [row A cA 3 1 (L.map fun x => .int .i64 (x.1 : Nat)), row D cD 21 1 (L.map fun x => .int .i32 (x.2 : Nat))], fun ⟨at_, L, A, cA, D, cD⟩ => pairs s = L ++ unsAt s at_ ∧ (A = none → cA = 0 ∧ L.length = 0) ∧ (D = none → cD = 0 ∧ L.length = 0) ∧ at_ ≤ s.size, fun ⟨at_, L, A, cA, D, cD⟩ => s.size - at_⟩ : LI (Nat × List (Nat × Nat) × Option Nat × Nat × Option Nat × Nat)) (loopStart _ (0, [], none, 0, none, 0) ⟨rfl, fun _ => ⟨rfl, rfl⟩, fun _ => ⟨rfl, rfl⟩, Nat.zero_le _⟩ (le_of ⟨rfl, rfl, rfl, rfl, trivial⟩) (fun _ s => s)) ?_))))
  rintro ⟨at_, L, A, cA, D, cD⟩ ⟨hok, hA, hD, hle⟩
  refine cSeq (cSeq (cReg (tQ rfl (qMove rfl) (tQ rfl (qMove rfl) (tQ rfl (qLenStr Tryd.runUnderlying9 rfl rfl) (tQ rfl (qLt rfl rfl) (tEnd (xThen ?_))))))))
  refine cIf rfl (fun c12 => ?_) (fun c12 => ?_)
  · refine cSkip (xThen (cBlock (cSeq ?_)))
    have hin : at_ < s.size := by simp at c12; omega
    have hul := unt_le s at_
    have hun := unt_in hin
    have hll := split_le hok
    have hpl := pairs_len s
    refine cReg (tQ rfl (qMove rfl) (tQ rfl (qMove rfl) (tCallQ rfl Tryd.call133 (first := []) (captured := []) rfl rfl (fun w' s' => unit01 hin hs) (tQ rfl (qMove rfl) (tQ rfl (qExtract rfl rfl) (tQ rfl (qExtract rfl rfl) (tQ rfl (qAssign rfl) (tQ rfl (qAssign rfl) (tEnd (xThen (cSeq (cReg (tQ rfl (qMove rfl) (tQ rfl (qMove rfl) ?_))))))))))))))
    refine tBuildSlice rfl Tryd.runUnderlying24 Tryd.sizeOf3 Tryd.zeroValue3 rfl rfl rfl rfl (cs := [_]) fun b21 => (tAppend (bytes := 8) 1 rfl Tryd.runUnderlying24 Tryd.sizeOf3 Tryd.typeInfo3 rfl Tryd.zeroValue3 rfl Tryd.runUnderlying24 rfl rfl rfl rfl rfl hA (by simp) rfl (by simp [Value.oneCell']) (fun w' s' => reads_blk 0 rfl rfl s') (by omega) fun A22 c22 h22 => (tQ rfl (qAssign rfl) (tEnd (xThen (cSeq (cReg (tQ rfl (qMove rfl) (tQ rfl (qMove rfl) (tBuildSlice rfl Tryd.runUnderlying72 Tryd.sizeOf21 Tryd.zeroValue21 rfl rfl rfl rfl (cs := [_]) fun b25 => (tAppend (bytes := 4) 3 rfl Tryd.runUnderlying72 Tryd.sizeOf21 Tryd.typeInfo21 rfl Tryd.zeroValue21 rfl Tryd.runUnderlying72 rfl rfl rfl rfl rfl hD (by simp) rfl (by simp [Value.oneCell']) (fun w' s' => reads_blk 0 rfl rfl s') (by omega) fun A26 c26 h26 => (tQ rfl (qAssign rfl) (tEnd (xThen (cReg (tQ rfl (qMove rfl) (tQ rfl (qMove rfl) ?_))))))))))))))))
    refine tQ rfl (qAdd rfl rfl (w64 (by omega) (by omega))) (tQ rfl (qAssign rfl) (tEnd (xBlock ?_)))
    refine xRound _ (at_ + (unt s at_).2, L ++ [(at_, (unt s at_).1)], A22, c22, A26, c26) ?_ (by dsimp only; omega) (le_of ⟨rfl, by simp [look], by simp [look], rfl, trivial⟩) (fun _ s => by simpa using s.less (.cons _ (.cons _ (.refl _))))
    refine ⟨by rw [hok, unsAt_lt hin, List.append_assoc]; rfl, by simpa using h22, by simpa using h26, hun⟩
  · refine cExit (xExitThen (xExitThen (xExitBlock (xThen (cSeq (cReg (tQ rfl (qMove rfl) (tQ rfl (qMove rfl) (tQ rfl (qAssign rfl) (tQ rfl (qAssign rfl) (tEnd (xThen (cRet ?_)))))))))))))
    have he : pairs s = L := by rw [hok, unsAt_ge (by simp at c12; omega), List.append_nil]
    refine xRet2 _ _ Tryd.results152 rfl rfl fun w' s' => ⟨_, s'.toOwn (Sub.refl _), A, cA, D, cD, ?_, ?_, ?_, ?_⟩
    · rw [he]
    · rw [he]; exact hA
    · rw [he]; exact hD
    · rw [he]

theorem units01 {w : World} {s : ByteArray} (hs : s.size ≤ 1000000000) :
    Calls Tryd.prog 120 [.string s].toArray w (fun e w' => ∃ v, e = .returned v ∧ Ext w w' ∧ ∃ h', Fresh w w' h' ∧ UniF s v h') := by
  refine Calls.mono (enter (R := fun v w' => Ext w w' ∧ ∃ h', Fresh w w' h' ∧ UniF s v h') 11 Tryd.func120 Tryd.ntmps120 rfl rfl (WS.start w) ?_) (fun e w' ⟨v, h1, h2⟩ => ⟨v, h1, h2⟩)
  refine cSeq (cReg (tQ rfl (qAssign rfl) (tEnd (xThen (cSeq (cReg (tQ rfl (qMove rfl) (tCallO rfl Tryd.call152 (first := []) (captured := []) rfl rfl (Φ := AllC s) (fun w' s' => all01 hs) fun v C hΦ => ?_))))))))
  obtain ⟨A, cA, D, cD, rfl, hA, hD, rfl⟩ := hΦ
  refine tQ rfl (qMove rfl) (tQ rfl (qExtract rfl rfl) (tQ rfl (qExtract rfl rfl) (tQ rfl (qAssign rfl) (tQ rfl (qAssign rfl) (tEnd (xThen (cSeq (cReg (tQ rfl (qMove rfl) (tQ rfl (qAssign rfl) (tEnd (xThen (cRet ?_)))))))))))))
  refine xRet1 _ Tryd.results120 rfl fun w' s' => ⟨s'.toExt (Sub.refl _), _, fresh_from _ _, _, _, rfl, rd_uL (s'.atNew (Sub.refl _) (.tail _ (.head _))) hD⟩

theorem places01 {w : World} {s : ByteArray} (hs : s.size ≤ 1000000000) :
    Calls Tryd.prog 121 [.string s].toArray w (fun e w' => ∃ v, e = .returned v ∧ Ext w w' ∧ ∃ h', Fresh w w' h' ∧ PlaF s v h') := by
  have hpl := pairs_len s
  refine Calls.mono (enter (R := fun v w' => Ext w w' ∧ ∃ h', Fresh w w' h' ∧ PlaF s v h') 15 Tryd.func121 Tryd.ntmps121 rfl rfl (WS.start w) ?_) (fun e w' ⟨v, h1, h2⟩ => ⟨v, h1, h2⟩)
  refine cSeq (cReg (tQ rfl (qAssign rfl) (tEnd (xThen (cSeq (cReg (tQ rfl (qMove rfl) (tCallO rfl Tryd.call152 (first := []) (captured := []) rfl rfl (Φ := AllC s) (fun w' s' => all01 hs) fun v C hΦ => ?_))))))))
  obtain ⟨A, cA, D, cD, rfl, hA, hD, rfl⟩ := hΦ
  refine tQ rfl (qMove rfl) (tQ rfl (qExtract rfl rfl) (tQ rfl (qExtract rfl rfl) (tQ rfl (qAssign rfl) (tQ rfl (qAssign rfl) (tEnd (xThen (cSeq (cReg (tQ rfl (qMove rfl) (tQ rfl (qMove rfl) (tQ rfl (qLenStr Tryd.runUnderlying9 rfl rfl) (tBuildSlice rfl Tryd.runUnderlying24 Tryd.sizeOf3 Tryd.zeroValue3 rfl rfl rfl rfl (cs := [_]) fun b13 => (tAppend (bytes := 8) 1 rfl Tryd.runUnderlying24 Tryd.sizeOf3 Tryd.typeInfo3 rfl Tryd.zeroValue3 rfl Tryd.runUnderlying24 rfl rfl rfl rfl rfl hA (by simp) rfl (by simp [Value.oneCell']) (fun w' s' => reads_blk 0 rfl rfl s') (by omega) fun A14 c14 h14 => (tQ rfl (qAssign rfl) ?_))))))))))))))
  refine tEnd (xThen (cRet ?_))
  refine xRet1 _ Tryd.results121 rfl fun w' s' => ⟨s'.toExt (Sub.refl _), _, fresh_from _ _, _, _, rfl, rd_pL (s'.atNew (Sub.refl _) (.tail _ (.head _))) h14⟩

theorem border01 {F : Hp} {w : World} {s : ByteArray} {p : Int} (hF : Sub F (hp w)) (hp : I64 p) (hs : s.size ≤ 1000000000) :
    Calls Tryd.prog 22 [.string s, .int .i64 p].toArray w (fun e w' => e = .returned (.bool (decide (brd s p))) ∧ Ext w w') := by
  obtain ⟨hp1, hp2⟩ := hp
  refine enter' 36 Tryd.func22 Tryd.ntmps22 rfl rfl (cSeq (cReg (tQ rfl (qAssign rfl) (tEnd (xThen (cSeq (cSeq (cReg (tQ rfl (qMove rfl) (tQ rfl (qLt rfl rfl) (tQ rfl (qMove rfl) ?_)))))))))))
  refine tCase 10 rfl (fun g10 => ?_) (fun g10 => ?_)
  · refine tNo rfl rfl rfl rfl (tNo rfl rfl rfl rfl (tNo rfl rfl rfl rfl (tNo rfl rfl rfl rfl (tQ rfl (qPickT rfl rfl) (tEnd (xThen (cIfT rfl (cSeq (cReg (tQ rfl (qAssign rfl) (tEnd (xThen (cRet (xRetThen ?_))))))))))))))
    refine xRet1 _ Tryd.results22 rfl fun w' s' => ⟨congrArg Value.bool (Eq.symm (decide_eq_false ?_)), s'.toExt (Sub.refl _)⟩
    rintro ⟨_, _, _⟩
    simp at *
    omega
  · refine tGo rfl rfl (tQ rfl (qMove rfl) (tGo rfl rfl (tQ rfl (qMove rfl) (tGo rfl rfl (tQ rfl (qLenStr Tryd.runUnderlying9 rfl rfl) (tGo rfl rfl (tQ rfl (qGt rfl rfl) (tQ rfl (qPickF rfl rfl) (tEnd (xThen ?_))))))))))
    refine cIf rfl (fun c15 => ?_) (fun c15 => ?_)
    · refine cSeq (cReg (tQ rfl (qAssign rfl) (tEnd (xThen (cRet (xRetThen ?_))))))
      refine xRet1 _ Tryd.results22 rfl fun w' s' => ⟨congrArg Value.bool (Eq.symm (decide_eq_false ?_)), s'.toExt (Sub.refl _)⟩
      rintro ⟨_, _, _⟩
      simp at *
      omega
    · refine cSkip (xThen (cSeq (cSeq ?_)))
      have hin : 0 ≤ p ∧ p ≤ s.size := by simp at g10 c15; omega
      obtain ⟨q, rfl⟩ : ∃ q : Nat, p = (q : Int) := ⟨p.toNat, by omega⟩
      refine cReg (tQ rfl (qAssign rfl) (tEnd (xThen (cBlock (cLoop (⟨fun (k : Nat) => [(0, .string s), (1, .int .i64 q), (5, .int .i64 k)], fun (k : Nat) => hp w, fun (k : Nat) => [], fun (k : Nat) => 1 ≤ k ∧ k ≤ 4 ∧ ∀ j, 1 ≤ j → j < k → j ≤ q → (chr s (q - j)).2 ≤ j, fun (k : Nat) => 4 - k⟩ : LI (Nat)) (loopStart _ 1 ⟨Nat.le_refl _, by omega, fun j _ _ _ => by omega⟩ (le_of ⟨rfl, rfl, rfl, trivial⟩) (fun _ s => s)) ?_)))))
      rintro k ⟨hk1, hk2, hk⟩
      refine cSeq (cSeq (cReg (tQ rfl (qMove rfl) (tQ rfl (qLe rfl rfl) (tQ rfl (qMove rfl) ?_)))))
      refine tCase 18 rfl (fun g18 => ?_) (fun g18 => ?_)
      · refine tGo rfl rfl (tQ rfl (qMove rfl) (tGo rfl rfl (tQ rfl (qMove rfl) (tGo rfl rfl (tQ rfl (qLe rfl rfl) (tQ rfl (qPickT rfl rfl) (tEnd (xThen ?_))))))))
        refine cIf rfl (fun c22 => ?_) (fun c22 => ?_)
        · refine cSkip (xThen (cSeq (cBlock (cSeq ?_))))
          simp at g18 c22
          refine cReg (tQ rfl (qMove rfl) (tQ rfl (qMove rfl) (tQ rfl (qMove rfl) (tQ rfl (qSub rfl rfl (c := ((q - k : Nat) : Int)) (by rw [w64 (by omega) (by omega)]; omega)) (tCallQ rfl Tryd.call52 (first := []) (captured := []) rfl rfl (fun w' s' => char01 (by omega) hs) (tQ rfl (qMove rfl) (tQ rfl (qExtract rfl rfl) (tQ rfl (qExtract rfl rfl) (tQ rfl (qAssign rfl) (tQ rfl (qAssign rfl) (tEnd (xThen (cSeq (cReg ?_))))))))))))))
          refine tQ rfl (qMove rfl) (tQ rfl (qMove rfl) (tQ rfl (qGt rfl rfl) (tEnd (xThen ?_))))
          refine cIf rfl (fun c35 => ?_) (fun c35 => ?_)
          · refine cSeq (cReg (tQ rfl (qAssign rfl) (tEnd (xThen (cRet (xRetBlock (xRetThen (xRetThen (xRetBlock (xRetThen ?_))))))))))
            refine xRet1 _ Tryd.results22 rfl fun w' s' => ⟨congrArg Value.bool (Eq.symm (decide_eq_false ?_)), s'.toExt (Sub.refl _)⟩
            rintro ⟨_, _, b1, b2, b3⟩
            rw [Int.toNat_natCast] at b1 b2 b3
            simp at c35
            have : k = 1 ∨ k = 2 ∨ k = 3 := by omega
            rcases this with rfl | rfl | rfl <;> omega
          · refine cSkip (xBlock (xThen (cReg (tQ rfl (qMove rfl) (tQ rfl (qAdd rfl rfl (w64 (by omega) (by omega))) (tQ rfl (qAssign rfl) (tEnd ?_)))))))
            refine xRound _ (k + 1) ?_ (by dsimp only; omega) (le_of ⟨rfl, rfl, rfl, trivial⟩) (fun _ s => s)
            refine ⟨by omega, by omega, fun j j1 j2 j3 => ?_⟩
            rcases Nat.lt_or_ge j k with h | h
            · exact hk j j1 h j3
            · obtain rfl : j = k := by omega
              simp at c35; omega
        · refine cExit (xExitThen (xExitThen (xExitBlock (xThen (cSeq (cReg (tQ rfl (qAssign rfl) (tEnd (xThen (cRet ?_))))))))))
          refine xRet1 _ Tryd.results22 rfl fun w' s' => ⟨congrArg Value.bool (Eq.symm (decide_eq_true ?_)), s'.toExt (Sub.refl _)⟩
          have hk4 : 3 < k ∨ q < k := by simp at *; omega
          refine ⟨by omega, by omega, ?_, ?_, ?_⟩
          all_goals rw [Int.toNat_natCast]; intro h; exact hk _ (by omega) (by omega) (by omega)
      · refine tNo rfl rfl rfl rfl (tNo rfl rfl rfl rfl (tNo rfl rfl rfl rfl (tQ rfl (qPickF rfl rfl) (tEnd (xThen (cIfF rfl (cExit (xExitThen (xExitThen (xExitBlock (xThen (cSeq (cReg (tQ rfl (qAssign rfl) (tEnd (xThen (cRet ?_)))))))))))))))))
        refine xRet1 _ Tryd.results22 rfl fun w' s' => ⟨congrArg Value.bool (Eq.symm (decide_eq_true ?_)), s'.toExt (Sub.refl _)⟩
        have hk4 : 3 < k ∨ q < k := by simp at *; omega
        refine ⟨by omega, by omega, ?_, ?_, ?_⟩
        all_goals rw [Int.toNat_natCast]; intro h; exact hk _ (by omega) (by omega) (by omega)

theorem next01 {F : Hp} {w : World} {s : ByteArray} {p : Nat} (hF : Sub F (hp w)) (hp : p ≤ s.size) (hs : s.size ≤ 1000000000) :
    Calls Tryd.prog 99 [.string s, .int .i64 p].toArray w (fun e w' => e = .returned (if p < s.size then .tuple #[.int .i32 (unt s p).1, .int .i64 (unt s p).2, .int .i64 0] else .tuple #[.int .i32 0, .int .i64 0, .int .i64 7]) ∧ Ext w w') := by
  refine enter' 29 Tryd.func99 Tryd.ntmps99 rfl rfl (cSeq (cReg (tQ rfl (qAssign rfl) (tQ rfl (qAssign rfl) (tQ rfl (qAssign rfl) (tEnd (xThen (cSeq (cSeq (cReg (tQ rfl (qMove rfl) (tQ rfl (qLt rfl rfl) (tQ rfl (qMove rfl) ?_)))))))))))))
  refine tCase 11 rfl (fun g11 => ?_) (fun g11 => ?_)
  · simp at g11; omega --END
  · refine tGo rfl rfl (tQ rfl (qMove rfl) (tGo rfl rfl (tQ rfl (qMove rfl) (tGo rfl rfl (tQ rfl (qLenStr Tryd.runUnderlying9 rfl rfl) (tGo rfl rfl (tQ rfl (qGt rfl rfl) (tQ rfl (qPickF rfl rfl) (tEnd (xThen ?_))))))))))
    refine cIf rfl (fun c16 => ?_) (fun c16 => ?_)
    · refine cSeq (cReg (tQ rfl (qAssign rfl) (tQ rfl (qAssign rfl) (tQ rfl (qAssign rfl) (tEnd (xThen (cRet (xRetThen ?_))))))))
      exfalso; simp at *; omega
    · refine cSkip (xThen (cSeq (cSeq (cReg (tQ rfl (qMove rfl) (tQ rfl (qMove rfl) (tQ rfl (qLenStr Tryd.runUnderlying9 rfl rfl) (tQ rfl (qEq rfl rfl) (tEnd (xThen ?_))))))))))
      refine cIf rfl (fun c20 => ?_) (fun c20 => ?_)
      · refine cSeq (cReg (tQ rfl (qAssign rfl) (tQ rfl (qAssign rfl) (tQ rfl (qAssign rfl) (tEnd (xThen (cRet (xRetThen ?_))))))))
        refine xRet3 _ _ _ Tryd.results99 rfl rfl rfl fun w' s' => ⟨?_, s'.toExt (Sub.refl _)⟩
        rw [if_neg (by simp at *; omega)]
      · refine cSkip (xThen (cSeq (cReg (tQ rfl (qMove rfl) (tQ rfl (qMove rfl) (tCallQ rfl Tryd.call133 (first := []) (captured := []) rfl rfl (fun w' s' => unit01 (by simp at c20; omega) hs) (tQ rfl (qMove rfl) (tQ rfl (qExtract rfl rfl) (tQ rfl (qExtract rfl rfl) (tQ rfl (qAssign rfl) (tQ rfl (qAssign rfl) (tEnd (xThen (cSeq (cReg (tQ rfl (qMove rfl) (tQ rfl (qMove rfl) ?_)))))))))))))))))
        refine tQ rfl (qAssign rfl) (tQ rfl (qAssign rfl) (tQ rfl (qAssign rfl) (tEnd (xThen (cRet ?_)))))
        refine xRet3 _ _ _ Tryd.results99 rfl rfl rfl fun w' s' => ⟨?_, s'.toExt (Sub.refl _)⟩
        rw [if_pos (by simp at *; omega)]

end Go.V
namespace Go.V
open Go.Proofs
set_option linter.unusedVariables false
set_option linter.unusedSimpArgs false

theorem hasPreL {w : World} {x y : ByteArray} (hx : x.size ≤ 1000000000) (hy : y.size ≤ 1000000000) :
    Calls Tryd.prog 187 [.string x, .string y].toArray w (fun e w' => e = .returned (.bool (decide (y.size ≤ x.size ∧ x.extract 0 y.size = y))) ∧ Ext w w') := by
  refine enter' 18 Tryd.func187 Tryd.ntmps187 rfl rfl (cSeq (cReg (tQ rfl (qAssign rfl) (tEnd (xThen (cSeq (cReg (tQ rfl (qMove rfl) (tQ rfl (qLenStr Tryd.runUnderlying9 rfl rfl) (tQ rfl (qMove rfl) (tQ rfl (qLenStr Tryd.runUnderlying9 rfl rfl) (tQ rfl (qGe rfl rfl) (tQ rfl (qMove rfl) ?_)))))))))))))
  refine tCase 10 rfl (fun g10 => ?_) (fun g10 => ?_)
  · have g10' : y.size ≤ x.size := by simp at g10; omega
    refine tGo rfl rfl (tQ rfl (qMove rfl) (tGo rfl rfl (tQ rfl (qMove rfl) (tGo rfl rfl (tQ rfl (qLenStr Tryd.runUnderlying9 rfl rfl) (tGo rfl rfl (tQ rfl (qSliceStr Tryd.runUnderlying9 rfl ⟨fun _ e => (by cases e), fun _ => rfl⟩ ⟨fun _ e => (by cases e; exact ⟨_, rfl⟩), fun e => (by cases e)⟩ (by omega) (by omega)) (tGo rfl rfl (tQ rfl (qMove rfl) (tGo rfl rfl (tQ rfl (qStrEq rfl rfl) ?_)))))))))))
    refine tQ rfl (qPickT rfl rfl) (tQ rfl (qAssign rfl) (tEnd (xThen (cRet ?_))))
    refine xRet1 _ Tryd.results187 rfl fun w' s' => ⟨congrArg Value.bool ?_, s'.toExt (Sub.refl _)⟩
    simp [g10']
  · have g10' : ¬ y.size ≤ x.size := by simp at g10; omega
    refine tNo rfl rfl rfl rfl (tNo rfl rfl rfl rfl (tNo rfl rfl rfl rfl (tNo rfl rfl rfl rfl (tNo rfl rfl rfl rfl (tNo rfl rfl rfl rfl (tQ rfl (qPickF rfl rfl) (tQ rfl (qAssign rfl) (tEnd (xThen (cRet ?_))))))))))
    refine xRet1 _ Tryd.results187 rfl fun w' s' => ⟨congrArg Value.bool ?_, s'.toExt (Sub.refl _)⟩
    simp [g10']

theorem hasPre {w : World} {x y : ByteArray} (hx : x.size ≤ 1000000000) (hy : y.size ≤ 1000000000) :
    Calls Tryd.prog 175 [.string x, .string y].toArray w (fun e w' => e = .returned (.bool (decide (y.size ≤ x.size ∧ x.extract 0 y.size = y))) ∧ Ext w w') := by
  refine enter' 8 Tryd.func175 Tryd.ntmps175 rfl rfl (cSeq (cReg (tQ rfl (qAssign rfl) (tEnd (xThen (cSeq (cReg (tQ rfl (qMove rfl) (tQ rfl (qMove rfl) (tCallQ rfl Tryd.call187 (first := []) (captured := []) rfl rfl (fun w' s' => hasPreL hx hy) (tQ rfl (qAssign rfl) (tEnd (xThen (cRet ?_))))))))))))))
  refine xRet1 _ Tryd.results175 rfl fun w' s => ⟨rfl, s.toExt (Sub.refl _)⟩

theorem number_ {w : World} {s : ByteArray} {p : Nat} (hlt : p < s.size) (hs : s.size ≤ 1000000000) :
    Calls Tryd.prog 159 [.string s, .int .i64 p, .int .i32 (Utf8.decode s p).1].toArray w (fun e w' => e = .returned (.int .i32 (unt s p).1) ∧ Ext w w') := by
  have hb := B_lt s p
  have hn := unt_number hlt
  have hpf := pre_fffd (Nat.le_of_lt hlt)
  refine enter' 22 Tryd.func159 Tryd.ntmps159 rfl rfl (cSeq (cReg (tQ rfl (qAssign rfl) (tEnd (xThen (cSeq (cSeq (cReg (tQ rfl (qMove rfl) (tQ rfl (qEq rfl rfl) (tQ rfl (qMove rfl) ?_)))))))))))
  refine tCase 9 rfl (fun g9 => ?_) (fun g9 => ?_)
  · refine tGo rfl rfl (tQ rfl (qMove rfl) (tGo rfl rfl (tQ rfl (qMove rfl) (tGo rfl rfl (tQ rfl (qSliceStr Tryd.runUnderlying9 rfl ⟨fun _ e => (by cases e; exact ⟨_, rfl⟩), fun e => (by cases e)⟩ ⟨fun _ e => (by cases e), fun _ => rfl⟩ (by omega) (by omega)) (tGo rfl rfl (tCallQ rfl Tryd.call175 (first := []) (captured := []) rfl rfl (fun w' s' => hasPre (y := fffd) (by rw [size_ext]; omega) (by decide)) (tGo rfl rfl (tQ rfl (qNot rfl) (tQ rfl (qPickT rfl rfl) (tEnd (xThen ?_))))))))))))
    refine cIf rfl (fun c15 => ?_) (fun c15 => ?_)
    · refine cSeq (cReg (tQ rfl (qMove rfl) (tQ rfl (qMove rfl) (tQ rfl (qIdxStrB Tryd.runUnderlying9 rfl rfl (j := p) (by omega) (by omega)) (tQ rfl (qConv Tryd.runUnderlying5 Tryd.runUnderlying21 rfl (w32 (by omega) (by omega))) (tQ rfl (qAdd rfl rfl (w32 (by omega) (by omega))) (tQ rfl (qAssign rfl) (tEnd (xThen (cRet (xRetThen ?_)))))))))))
      have hx := by simpa only [Bool.not_eq_true', decide_eq_false_iff_not] using c15
      rw [hpf] at hx
      refine xRet1 _ Tryd.results159 rfl fun w' s' => ⟨?_, s'.toExt (Sub.refl _)⟩
      rw [hn.1 ⟨by simp at g9; omega, hx⟩]
      rfl
    · refine cSkip (xThen (cSeq (cReg (tQ rfl (qMove rfl) (tQ rfl (qAssign rfl) (tEnd (xThen (cRet ?_))))))))
      refine xRet1 _ Tryd.results159 rfl fun w' s' => ⟨?_, s'.toExt (Sub.refl _)⟩
      rw [hn.2 (fun h => by first | exact absurd h.1 (by simp at g9; omega) | exact h.2 (hpf.1 (by simpa only [Bool.not_eq_false', decide_eq_true_eq] using c15)))]
  · refine tNo rfl rfl rfl rfl (tNo rfl rfl rfl rfl (tNo rfl rfl rfl rfl (tNo rfl rfl rfl rfl (tNo rfl rfl rfl rfl (tQ rfl (qPickF rfl rfl) (tEnd (xThen (cIfF rfl (cSkip (xThen (cSeq (cReg (tQ rfl (qMove rfl) (tQ rfl (qAssign rfl) (tEnd (xThen (cRet ?_)))))))))))))))))
    refine xRet1 _ Tryd.results159 rfl fun w' s' => ⟨?_, s'.toExt (Sub.refl _)⟩
    rw [hn.2 (fun h => by first | exact absurd h.1 (by simp at g9; omega) | exact h.2 (hpf.1 (by simpa only [Bool.not_eq_false', decide_eq_true_eq] using c15)))]

theorem runeLen {w : World} {v : Nat} (hv : v ≤ 1114111) (hn : ¬ (0xD800 ≤ v ∧ v ≤ 0xDFFF)) :
    Calls Tryd.prog 178 [.int .i32 v].toArray w (fun e w' => e = .returned (.int .i64 (wid v)) ∧ Ext w w') := by
  refine enter' 25 Tryd.func178 Tryd.ntmps178 rfl rfl (cSeq (cReg (tQ rfl (qAssign rfl) (tEnd (xThen (cSeq (cBlock (cSeq (cReg (tQ rfl (qMove rfl) (tQ rfl (qLt rfl rfl) (tQ rfl (qAssign rfl) (tEnd (xThen ?_))))))))))))))
  refine cIf rfl (fun c3 => ?_) (fun c3 => ?_)
  · refine cSeq (cReg (tQ rfl (qAssign rfl) (tEnd (xThen (cRet (xRetBlock (xRetThen ?_)))))))
    refine xRet1 _ Tryd.results178 rfl fun w' s' => ⟨?_, s'.toExt (Sub.refl _)⟩
    simp at *
    first | (exfalso; omega) | (unfold wid; rw [if_pos (by omega)]; rfl) | (unfold wid; rw [if_neg (by omega), if_pos (by omega)]; rfl) | (unfold wid; rw [if_neg (by omega), if_neg (by omega), if_pos (by omega)]; rfl) | (unfold wid; rw [if_neg (by omega), if_neg (by omega), if_neg (by omega)]; rfl)
  · refine cSeq (cReg (tQ rfl (qMove rfl) (tQ rfl (qLe rfl rfl) (tQ rfl (qAssign rfl) (tEnd (xThen ?_))))))
    refine cIf rfl (fun c6 => ?_) (fun c6 => ?_)
    · refine cSeq (cReg (tQ rfl (qAssign rfl) (tEnd (xThen (cRet (xRetBlock (xRetThen ?_)))))))
      refine xRet1 _ Tryd.results178 rfl fun w' s' => ⟨?_, s'.toExt (Sub.refl _)⟩
      simp at *
      first | (exfalso; omega) | (unfold wid; rw [if_pos (by omega)]; rfl) | (unfold wid; rw [if_neg (by omega), if_pos (by omega)]; rfl) | (unfold wid; rw [if_neg (by omega), if_neg (by omega), if_pos (by omega)]; rfl) | (unfold wid; rw [if_neg (by omega), if_neg (by omega), if_neg (by omega)]; rfl)
    · refine cSeq (cReg (tQ rfl (qMove rfl) (tQ rfl (qLe rfl rfl) (tQ rfl (qAssign rfl) (tEnd (xThen ?_))))))
      refine cIf rfl (fun c9 => ?_) (fun c9 => ?_)
      · refine cSeq (cReg (tQ rfl (qAssign rfl) (tEnd (xThen (cRet (xRetBlock (xRetThen ?_)))))))
        refine xRet1 _ Tryd.results178 rfl fun w' s' => ⟨?_, s'.toExt (Sub.refl _)⟩
        simp at *
        first | (exfalso; omega) | (unfold wid; rw [if_pos (by omega)]; rfl) | (unfold wid; rw [if_neg (by omega), if_pos (by omega)]; rfl) | (unfold wid; rw [if_neg (by omega), if_neg (by omega), if_pos (by omega)]; rfl) | (unfold wid; rw [if_neg (by omega), if_neg (by omega), if_neg (by omega)]; rfl)
      · refine cSeq (cReg (tQ rfl (qMove rfl) (tQ rfl (qLe rfl rfl) (tQ rfl (qMove rfl) ?_))))
        refine tCase 15 rfl (fun g15 => ?_) (fun g15 => ?_)
        · refine tGo rfl rfl (tQ rfl (qMove rfl) (tGo rfl rfl (tQ rfl (qLe rfl rfl) (tQ rfl (qPickT rfl rfl) (tQ rfl (qAssign rfl) (tEnd (xThen ?_)))))))
          refine cIf rfl (fun c12 => ?_) (fun c12 => ?_)
          · refine cSeq (cReg (tQ rfl (qAssign rfl) (tEnd (xThen (cRet (xRetBlock (xRetThen ?_)))))))
            refine xRet1 _ Tryd.results178 rfl fun w' s' => ⟨?_, s'.toExt (Sub.refl _)⟩
            simp at *
            first | (exfalso; omega) | (unfold wid; rw [if_pos (by omega)]; rfl) | (unfold wid; rw [if_neg (by omega), if_pos (by omega)]; rfl) | (unfold wid; rw [if_neg (by omega), if_neg (by omega), if_pos (by omega)]; rfl) | (unfold wid; rw [if_neg (by omega), if_neg (by omega), if_neg (by omega)]; rfl)
          · refine cSeq (cReg (tQ rfl (qMove rfl) (tQ rfl (qLe rfl rfl) (tQ rfl (qAssign rfl) (tEnd (xThen ?_))))))
            refine cIf rfl (fun c19 => ?_) (fun c19 => ?_)
            · refine cSeq (cReg (tQ rfl (qAssign rfl) (tEnd (xThen (cRet (xRetBlock (xRetThen ?_)))))))
              refine xRet1 _ Tryd.results178 rfl fun w' s' => ⟨?_, s'.toExt (Sub.refl _)⟩
              simp at *
              first | (exfalso; omega) | (unfold wid; rw [if_pos (by omega)]; rfl) | (unfold wid; rw [if_neg (by omega), if_pos (by omega)]; rfl) | (unfold wid; rw [if_neg (by omega), if_neg (by omega), if_pos (by omega)]; rfl) | (unfold wid; rw [if_neg (by omega), if_neg (by omega), if_neg (by omega)]; rfl)
            · refine cSeq (cReg (tQ rfl (qMove rfl) (tQ rfl (qLe rfl rfl) (tQ rfl (qAssign rfl) (tEnd (xThen ?_))))))
              refine cIf rfl (fun c22 => ?_) (fun c22 => ?_)
              · refine cSeq (cReg (tQ rfl (qAssign rfl) (tEnd (xThen (cRet (xRetBlock (xRetThen ?_)))))))
                refine xRet1 _ Tryd.results178 rfl fun w' s' => ⟨?_, s'.toExt (Sub.refl _)⟩
                simp at *
                first | (exfalso; omega) | (unfold wid; rw [if_pos (by omega)]; rfl) | (unfold wid; rw [if_neg (by omega), if_pos (by omega)]; rfl) | (unfold wid; rw [if_neg (by omega), if_neg (by omega), if_pos (by omega)]; rfl) | (unfold wid; rw [if_neg (by omega), if_neg (by omega), if_neg (by omega)]; rfl)
              · refine cSkip (xBlock (xThen (cSeq (cReg (tQ rfl (qAssign rfl) (tEnd (xThen (cRet ?_))))))))
                refine xRet1 _ Tryd.results178 rfl fun w' s' => ⟨?_, s'.toExt (Sub.refl _)⟩
                simp at *
                first | (exfalso; omega) | (unfold wid; rw [if_pos (by omega)]; rfl) | (unfold wid; rw [if_neg (by omega), if_pos (by omega)]; rfl) | (unfold wid; rw [if_neg (by omega), if_neg (by omega), if_pos (by omega)]; rfl) | (unfold wid; rw [if_neg (by omega), if_neg (by omega), if_neg (by omega)]; rfl)
        · refine tNo rfl rfl rfl rfl (tNo rfl rfl rfl rfl (tQ rfl (qPickF rfl rfl) (tQ rfl (qAssign rfl) (tEnd (xThen (cIfF rfl (cSeq (cReg (tQ rfl (qMove rfl) (tQ rfl (qLe rfl rfl) (tQ rfl (qAssign rfl) (tEnd (xThen ?_)))))))))))))
          refine cIf rfl (fun c19 => ?_) (fun c19 => ?_)
          · refine cSeq (cReg (tQ rfl (qAssign rfl) (tEnd (xThen (cRet (xRetBlock (xRetThen ?_)))))))
            refine xRet1 _ Tryd.results178 rfl fun w' s' => ⟨?_, s'.toExt (Sub.refl _)⟩
            simp at *
            first | (exfalso; omega) | (unfold wid; rw [if_pos (by omega)]; rfl) | (unfold wid; rw [if_neg (by omega), if_pos (by omega)]; rfl) | (unfold wid; rw [if_neg (by omega), if_neg (by omega), if_pos (by omega)]; rfl) | (unfold wid; rw [if_neg (by omega), if_neg (by omega), if_neg (by omega)]; rfl)
          · refine cSeq (cReg (tQ rfl (qMove rfl) (tQ rfl (qLe rfl rfl) (tQ rfl (qAssign rfl) (tEnd (xThen ?_))))))
            refine cIf rfl (fun c22 => ?_) (fun c22 => ?_)
            · refine cSeq (cReg (tQ rfl (qAssign rfl) (tEnd (xThen (cRet (xRetBlock (xRetThen ?_)))))))
              refine xRet1 _ Tryd.results178 rfl fun w' s' => ⟨?_, s'.toExt (Sub.refl _)⟩
              simp at *
              first | (exfalso; omega) | (unfold wid; rw [if_pos (by omega)]; rfl) | (unfold wid; rw [if_neg (by omega), if_pos (by omega)]; rfl) | (unfold wid; rw [if_neg (by omega), if_neg (by omega), if_pos (by omega)]; rfl) | (unfold wid; rw [if_neg (by omega), if_neg (by omega), if_neg (by omega)]; rfl)
            · refine cSkip (xBlock (xThen (cSeq (cReg (tQ rfl (qAssign rfl) (tEnd (xThen (cRet ?_))))))))
              refine xRet1 _ Tryd.results178 rfl fun w' s' => ⟨?_, s'.toExt (Sub.refl _)⟩
              simp at *
              first | (exfalso; omega) | (unfold wid; rw [if_pos (by omega)]; rfl) | (unfold wid; rw [if_neg (by omega), if_pos (by omega)]; rfl) | (unfold wid; rw [if_neg (by omega), if_neg (by omega), if_pos (by omega)]; rfl) | (unfold wid; rw [if_neg (by omega), if_neg (by omega), if_neg (by omega)]; rfl)

theorem width_ {w : World} {s : ByteArray} {p : Nat} :
    Calls Tryd.prog 163 [.int .i32 (unt s p).1].toArray w (fun e w' => e = .returned (.int .i64 (unt s p).2) ∧ Ext w w') := by
  have hb := B_lt s p
  have hcl := chr_le s p
  have hul := unt_le s p
  have hwid : (unt s p).1 ≤ 1114111 → (unt s p).2 = wid (unt s p).1 ∧ ¬ (0xD800 ≤ (unt s p).1 ∧ (unt s p).1 ≤ 0xDFFF) := by
    unfold unt
    split
    · intro h; exfalso; simp only at h; omega
    · rename_i h; intro _; exact chr_wid h
  have hw1 : 1114111 < (unt s p).1 → (unt s p).2 = 1 := by
    unfold unt
    split
    · intro _; rfl
    · intro h; omega
  refine enter' 7 Tryd.func163 Tryd.ntmps163 rfl rfl (cSeq (cReg (tQ rfl (qAssign rfl) (tEnd (xThen (cSeq (cSeq (cReg (tQ rfl (qMove rfl) (tQ rfl (qGt rfl rfl) (tEnd (xThen ?_))))))))))))
  refine cIf rfl (fun c4 => ?_) (fun c4 => ?_)
  · refine cSeq (cReg (tQ rfl (qAssign rfl) (tEnd (xThen (cRet (xRetThen ?_))))))
    refine xRet1 _ Tryd.results163 rfl fun w' s' => ⟨?_, s'.toExt (Sub.refl _)⟩
    rw [hw1 (by simp at c4; omega)]
    rfl
  · refine cSkip (xThen (cSeq ?_))
    simp at c4
    refine cReg (tQ rfl (qMove rfl) (tCallQ rfl Tryd.call178 (first := []) (captured := []) rfl rfl (fun w' s' => runeLen (by omega) (hwid (by omega)).2) (tQ rfl (qAssign rfl) (tEnd (xThen (cRet ?_))))))
    refine xRet1 _ Tryd.results163 rfl fun w' s' => ⟨?_, s'.toExt (Sub.refl _)⟩
    rw [(hwid (by omega)).1]

theorem next_ {w : World} {s : ByteArray} {p : Nat} (hple : p ≤ s.size) (hs : s.size ≤ 1000000000) :
    Calls Tryd.prog 139 [.string s, .int .i64 p].toArray w (fun e w' => e = .returned (if p < s.size then .tuple #[.int .i32 (unt s p).1, .int .i64 (unt s p).2, .int .i64 0] else .tuple #[.int .i32 0, .int .i64 0, .int .i64 7]) ∧ Ext w w') := by
  have hse := size_ext s p
  refine enter' 35 Tryd.func139 Tryd.ntmps139 rfl rfl (cSeq (cReg (tQ rfl (qAssign rfl) (tQ rfl (qAssign rfl) (tQ rfl (qAssign rfl) (tEnd (xThen (cSeq (cSeq (cReg (tQ rfl (qMove rfl) (tQ rfl (qLt rfl rfl) (tQ rfl (qMove rfl) ?_)))))))))))))
  refine tCase 12 rfl (fun g12 => ?_) (fun g12 => ?_)
  · refine tNo rfl rfl rfl rfl (tNo rfl rfl rfl rfl (tNo rfl rfl rfl rfl (tNo rfl rfl rfl rfl (tQ rfl (qPickT rfl rfl) (tEnd (xThen (cIfT rfl (cSeq (cReg (tQ rfl (qAssign rfl) (tQ rfl (qAssign rfl) (tQ rfl (qAssign rfl) (tEnd (xThen (cRet (xRetThen ?_))))))))))))))))
    exfalso; simp at *; omega
  · refine tGo rfl rfl (tQ rfl (qMove rfl) (tGo rfl rfl (tQ rfl (qMove rfl) (tGo rfl rfl (tQ rfl (qLenStr Tryd.runUnderlying9 rfl rfl) (tGo rfl rfl (tQ rfl (qGt rfl rfl) (tQ rfl (qPickF rfl rfl) (tEnd (xThen ?_))))))))))
    refine cIf rfl (fun c17 => ?_) (fun c17 => ?_)
    · refine cSeq (cReg (tQ rfl (qAssign rfl) (tQ rfl (qAssign rfl) (tQ rfl (qAssign rfl) (tEnd (xThen (cRet (xRetThen ?_))))))))
      exfalso; simp at *; omega
    · refine cSkip (xThen (cSeq (cSeq (cReg (tQ rfl (qMove rfl) (tQ rfl (qMove rfl) (tQ rfl (qSliceStr Tryd.runUnderlying9 rfl ⟨fun _ e => (by cases e; exact ⟨_, rfl⟩), fun e => (by cases e)⟩ ⟨fun _ e => (by cases e), fun _ => rfl⟩ (by omega) (by omega)) (tRange rfl Tryd.runUnderlying9 rfl fun b21 => (tEnd (xThen (cBlock (cLoop (⟨fun (u : Unit) => [(0, .string s), (1, .int .i64 p), (21, .pointer (some ⟨b21, 0, none⟩))], fun (u : Unit) => hp w, fun (u : Unit) => [iter b21 (s.extract p s.size) 0], fun (u : Unit) => True, fun (u : Unit) => 0⟩ : LI (Unit)) (loopStart _ () (by simp) (le_of ⟨rfl, rfl, rfl, trivial⟩) (fun _ s => s)) ?_))))))))))))
      rintro u hok
      refine cSeq (cReg ?_)
      refine tNext 0 rfl rfl rfl (fun n22 => ?_) (fun n22 => ?_)
      · refine tQ rfl (qExtract rfl rfl) (tEnd (xThen (cSeq (cIfT rfl (cSkip (xThen (cBlock (cSeq (cReg (tQ rfl (qExtract rfl rfl) (tQ rfl (qExtract rfl rfl) (tQ rfl (qAssign rfl) (tQ rfl (qAssign rfl) (tEnd (xThen (cSeq (cReg (tQ rfl (qMove rfl) (tQ rfl (qMove rfl) (tQ rfl (qSliceStr Tryd.runUnderlying9 rfl ⟨fun _ e => (by cases e; exact ⟨_, rfl⟩), fun e => (by cases e)⟩ ⟨fun _ e => (by cases e), fun _ => rfl⟩ (by omega) (by omega)) ?_))))))))))))))))))))
        refine tQ rfl (qMove rfl) (tQ rfl (qMove rfl) (tCallQ rfl Tryd.call159 (first := []) (captured := []) rfl rfl (fun w' s' => by have := number_ (w := w') (s := s.extract p s.size) (p := 0) (by omega) (by omega); exact this) (tQ rfl (qAssign rfl) (tEnd (xThen (cSeq (cReg (tQ rfl (qMove rfl) (tQ rfl (qMove rfl) (tCallQ rfl Tryd.call163 (first := []) (captured := []) rfl rfl (fun w' s' => width_) (tQ rfl (qAssign rfl) (tQ rfl (qAssign rfl) (tQ rfl (qAssign rfl) (tEnd (xThen (cRet (xRetBlock (xRetThen (xRetBlock (xRetThen ?_))))))))))))))))))))
        refine xRet3 _ _ _ Tryd.results139 rfl rfl rfl fun w' s' => ⟨?_, s'.toExt (Sub.refl _)⟩
        rw [if_pos (by omega), unt_ext (by omega)]
      · refine tQ rfl (qExtract rfl rfl) (tEnd (xThen (cSeq (cIfF rfl (cExit (xExitThen (xExitThen (xExitBlock (xThen (cSeq (cReg (tQ rfl (qAssign rfl) (tQ rfl (qAssign rfl) (tQ rfl (qAssign rfl) (tEnd (xThen (cRet ?_)))))))))))))))))
        refine xRet3 _ _ _ Tryd.results139 rfl rfl rfl fun w' s' => ⟨?_, s'.toExt (Sub.refl _)⟩
        rw [if_neg (by omega)]

theorem unitsU {w : World} {s : ByteArray} (hs : s.size ≤ 1000000000) :
    Calls Tryd.prog 135 [.string s].toArray w (fun e w' => ∃ v, e = .returned v ∧ Ext w w' ∧ ∃ h', Fresh w w' h' ∧ UniF s v h') := by
  refine Calls.mono (enter (R := fun v w' => Ext w w' ∧ ∃ h', Fresh w w' h' ∧ UniF s v h') 20 Tryd.func135 Tryd.ntmps135 rfl rfl (WS.start w) ?_) (fun e w' ⟨v, h1, h2⟩ => ⟨v, h1, h2⟩)
  refine cSeq (cReg (tQ rfl (qAssign rfl) (tEnd (xThen (cSeq (cReg (tQ rfl (qAssign rfl) (tEnd (xThen (cSeq (cSeq (cNilRow 21 1 (cReg (tQ rfl (qMove rfl) (tRange rfl Tryd.runUnderlying9 rfl fun b7 => (tEnd (xThen (cBlock (cLoop (⟨fun ⟨at_, L, A, cA⟩ => [(0, .string s), (3, rowV A L.length cA), (7, .pointer (some ⟨b7, 0, none⟩))], fun ⟨at_, L, A, cA⟩ => hp w, fun ⟨at_, L, A, cA⟩ => [iter b7 s at_, row A cA 21 1 (L.map fun x => .int .i32 (x.2 : Nat))], fun ⟨at_, L, A, cA⟩ => pairs s = L ++ unsAt s at_ ∧ (A = none → cA = 0 ∧ L.length = 0) ∧ at_ ≤ s.size, fun ⟨at_, L, A, cA⟩ => s.size - at_⟩ : LI (Nat × List (Nat × Nat) × Option Nat × Nat)) (loopStart _ (0, [], none, 0) ⟨rfl, fun _ => ⟨rfl, rfl⟩, Nat.zero_le _⟩ (le_of ⟨rfl, rfl, rfl, trivial⟩) (fun _ s => s)) ?_)))))))))))))))))))
  rintro ⟨at_, L, A, cA⟩ ⟨hok, hA, hle⟩
  refine cSeq (cReg ?_)
  refine tNext 0 rfl rfl rfl (fun n8 => ?_) (fun n8 => ?_)
  · refine tQ rfl (qExtract rfl rfl) (tEnd (xThen (cSeq (cIfT rfl (cSkip (xThen (cBlock (cSeq (cReg (tQ rfl (qExtract rfl rfl) (tQ rfl (qExtract rfl rfl) (tQ rfl (qAssign rfl) (tQ rfl (qAssign rfl) (tEnd (xThen ?_)))))))))))))))
    have hin : at_ < s.size := n8
    have hul := unt_le s at_
    have hun := unt_in hin
    have hll := split_le hok
    have hpl := pairs_len s
    refine cReg (tQ rfl (qMove rfl) (tQ rfl (qMove rfl) (tQ rfl (qMove rfl) (tQ rfl (qMove rfl) (tCallQ rfl Tryd.call159 (first := []) (captured := []) rfl rfl (fun w' s' => number_ hin hs) (tBuildSlice rfl Tryd.runUnderlying72 Tryd.sizeOf21 Tryd.zeroValue21 rfl rfl rfl rfl (cs := [_]) fun b17 => (tAppend (bytes := 4) 2 rfl Tryd.runUnderlying72 Tryd.sizeOf21 Tryd.typeInfo21 rfl Tryd.zeroValue21 rfl Tryd.runUnderlying72 rfl rfl rfl rfl rfl hA (by simp) rfl (by simp [Value.oneCell']) (fun w' s' => reads_blk 0 rfl rfl s') (by omega) fun A18 c18 h18 => (tQ rfl (qAssign rfl) (tEnd (xBlock ?_))))))))))
    refine xRound _ (at_ + (Utf8.decode s at_).2, L ++ [(at_, (unt s at_).1)], A18, c18) ?_ (by have := unt_width hin; dsimp only; omega) (le_of ⟨rfl, by simp [look], rfl, trivial⟩) (fun _ s => by simpa using s.less (.cons _ (.refl _)))
    refine ⟨by rw [hok, ← unt_width hin, unsAt_lt hin, List.append_assoc]; rfl, by simpa using h18, by rw [← unt_width hin]; exact hun⟩
  · refine tQ rfl (qExtract rfl rfl) (tEnd (xThen (cSeq (cIfF rfl (cExit (xExitThen (xExitThen (xExitBlock (xThen (cSeq (cReg (tQ rfl (qMove rfl) (tQ rfl (qAssign rfl) (tEnd (xThen (cRet ?_))))))))))))))))
    have he : pairs s = L := by rw [hok, unsAt_ge n8, List.append_nil]
    refine xRet1 _ Tryd.results135 rfl fun w' s' => ⟨s'.toExt (Sub.refl _), _, fresh_from _ _, A.map fun b => ⟨b, 0, none⟩, cA, by rw [he], rd_uL (by rw [he]; exact s'.atNew (Sub.refl _) (.tail _ (.head _))) (by rw [he]; exact hA)⟩

theorem placesU {w : World} {s : ByteArray} (hs : s.size ≤ 1000000000) :
    Calls Tryd.prog 136 [.string s].toArray w (fun e w' => ∃ v, e = .returned v ∧ Ext w w' ∧ ∃ h', Fresh w w' h' ∧ PlaF s v h') := by
  refine Calls.mono (enter (R := fun v w' => Ext w w' ∧ ∃ h', Fresh w w' h' ∧ PlaF s v h') 19 Tryd.func136 Tryd.ntmps136 rfl rfl (WS.start w) ?_) (fun e w' ⟨v, h1, h2⟩ => ⟨v, h1, h2⟩)
  refine cSeq (cReg (tQ rfl (qAssign rfl) (tEnd (xThen (cSeq (cReg (tQ rfl (qAssign rfl) (tEnd (xThen (cSeq (cSeq (cNilRow 3 1 (cReg (tQ rfl (qMove rfl) (tRange rfl Tryd.runUnderlying9 rfl fun b6 => (tEnd (xThen (cBlock (cLoop (⟨fun ⟨at_, L, A, cA⟩ => [(0, .string s), (3, rowV A L.length cA), (6, .pointer (some ⟨b6, 0, none⟩))], fun ⟨at_, L, A, cA⟩ => hp w, fun ⟨at_, L, A, cA⟩ => [iter b6 s at_, row A cA 3 1 (L.map fun x => .int .i64 (x.1 : Nat))], fun ⟨at_, L, A, cA⟩ => pairs s = L ++ unsAt s at_ ∧ (A = none → cA = 0 ∧ L.length = 0) ∧ at_ ≤ s.size, fun ⟨at_, L, A, cA⟩ => s.size - at_⟩ : LI (Nat × List (Nat × Nat) × Option Nat × Nat)) (loopStart _ (0, [], none, 0) ⟨rfl, fun _ => ⟨rfl, rfl⟩, Nat.zero_le _⟩ (le_of ⟨rfl, rfl, rfl, trivial⟩) (fun _ s => s)) ?_)))))))))))))))))))
  rintro ⟨at_, L, A, cA⟩ ⟨hok, hA, hle⟩
  refine cSeq (cReg ?_)
  refine tNext 0 rfl rfl rfl (fun n7 => ?_) (fun n7 => ?_)
  · refine tQ rfl (qExtract rfl rfl) (tEnd (xThen (cSeq (cIfT rfl (cSkip (xThen (cBlock (cSeq (cReg (tQ rfl (qExtract rfl rfl) (tQ rfl (qAssign rfl) (tEnd (xThen ?_)))))))))))))
    have hin : at_ < s.size := n7
    have hul := unt_le s at_
    have hun := unt_in hin
    have hll := split_le hok
    have hpl := pairs_len s
    refine cReg (tQ rfl (qMove rfl) (tQ rfl (qMove rfl) (tBuildSlice rfl Tryd.runUnderlying24 Tryd.sizeOf3 Tryd.zeroValue3 rfl rfl rfl rfl (cs := [_]) fun b12 => (tAppend (bytes := 8) 2 rfl Tryd.runUnderlying24 Tryd.sizeOf3 Tryd.typeInfo3 rfl Tryd.zeroValue3 rfl Tryd.runUnderlying24 rfl rfl rfl rfl rfl hA (by simp) rfl (by simp [Value.oneCell']) (fun w' s' => reads_blk 0 rfl rfl s') (by omega) fun A13 c13 h13 => (tQ rfl (qAssign rfl) (tEnd (xBlock ?_)))))))
    refine xRound _ (at_ + (Utf8.decode s at_).2, L ++ [(at_, (unt s at_).1)], A13, c13) ?_ (by have := unt_width hin; dsimp only; omega) (le_of ⟨rfl, by simp [look], rfl, trivial⟩) (fun _ s => by simpa using s.less (.cons _ (.refl _)))
    refine ⟨by rw [hok, ← unt_width hin, unsAt_lt hin, List.append_assoc]; rfl, by simpa using h13, by rw [← unt_width hin]; exact hun⟩
  · refine tQ rfl (qExtract rfl rfl) (tEnd (xThen (cSeq (cIfF rfl (cExit (xExitThen (xExitThen (xExitBlock (xThen (cSeq ?_))))))))))
    have he : pairs s = L := by rw [hok, unsAt_ge n7, List.append_nil]
    have hpl := pairs_len s
    have hll := split_le hok
    refine cReg (tQ rfl (qMove rfl) (tQ rfl (qMove rfl) (tQ rfl (qLenStr Tryd.runUnderlying9 rfl rfl) (tBuildSlice rfl Tryd.runUnderlying24 Tryd.sizeOf3 Tryd.zeroValue3 rfl rfl rfl rfl (cs := [_]) fun b17 => (tAppend (bytes := 8) 2 rfl Tryd.runUnderlying24 Tryd.sizeOf3 Tryd.typeInfo3 rfl Tryd.zeroValue3 rfl Tryd.runUnderlying24 rfl rfl rfl rfl rfl hA (by simp) rfl (by simp [Value.oneCell']) (fun w' s' => reads_blk 0 rfl rfl s') (by omega) fun A18 c18 h18 => (tQ rfl (qAssign rfl) (tEnd (xThen (cRet ?_)))))))))
    refine xRet1 _ Tryd.results136 rfl fun w' s' => ⟨s'.toExt (Sub.refl _), _, fresh_from _ _, A18.map fun b => ⟨b, 0, none⟩, c18, by rw [he], rd_pL (by rw [he]; exact s'.atNew (Sub.refl _) (.tail _ (.tail _ (.head _)))) (by rw [he]; exact h18)⟩

theorem decodeSlow {F : Hp} {w : World} {s : ByteArray} (hF : Sub F (hp w)) (hT : T F) (h0 : 0 < s.size) (h128 : ¬ B s 0 < 128) (hs : s.size ≤ 1000000000) :
    Calls Tryd.prog 158 [.string s].toArray w (fun e w' => e = .returned (.tuple #[.int .i32 (Utf8.decode s 0).1, .int .i64 (Utf8.decode s 0).2]) ∧ Ext w w') := by
  replace hT := hT.mono hF
  have hb := B_lt s 0
  have hb1 := B_lt s (0 + 1)
  have hb2 := B_lt s (0 + 2)
  have hb3 := B_lt s (0 + 3)
  obtain ⟨ft1, ft2, ft3, ft4⟩ := first_tab (B s 0) hb (by omega)
  have hnc := nOf_cases (B s 0)
  have hlh := loHi (B s 0)
  have hfst : at1 (hp w) 0 (0 + B s 0 * 1) = some (.int .u8 (fstV (B s 0) : Nat)) := by
    have := hT.first (B s 0) hb
    rw [ft1] at this
    simpa using this
  refine enter' 117 Tryd.func158 Tryd.ntmps158 rfl rfl (cSeq (cReg (tQ rfl (qAssign rfl) (tQ rfl (qAssign rfl) (tEnd (xThen (cSeq (cReg (tQ rfl (qMove rfl) (tQ rfl (qLenStr Tryd.runUnderlying9 rfl rfl) (tQ rfl (qAssign rfl) (tEnd (xThen (cSeq (cSeq (cReg (tQ rfl (qMove rfl) (tQ rfl (qLt rfl rfl) (tEnd (xThen ?_))))))))))))))))))))
  refine cIf rfl (fun c16 => ?_) (fun c16 => ?_)
  · refine cSeq (cReg (tQ rfl (qAssign rfl) (tQ rfl (qAssign rfl) (tEnd (xThen (cRet (xRetThen ?_)))))))
    exfalso; simp only [decide_eq_true_eq, decide_eq_false_iff_not] at c16; omega
  · refine cSkip (xThen (cSeq (cReg (tQ rfl (qMove rfl) (tQ rfl (qIdxStrB Tryd.runUnderlying9 rfl rfl (j := 0) (by omega) (by omega)) (tQ rfl (qAssign rfl) (tEnd (xThen (cSeq (cReg (tQ rfl (qMove rfl) (tQ rfl (qIdxAddrArr Tryd.runUnderlying232 Tryd.sizeOf5 rfl rfl rfl (by omega)) (tQ rfl (qLd1 Tryd.isAgg5 rfl hfst) (tQ rfl (qAssign rfl) (tEnd (xThen (cSeq (cSeq (cReg (tQ rfl (qMove rfl) (tQ rfl (qGe rfl rfl) ?_)))))))))))))))))))))
    refine tEnd (xThen ?_)
    refine cIf rfl (fun c23 => ?_) (fun c23 => ?_)
    · refine cSeq ?_
      have hf : fstV (B s 0) = 241 := by simp only [decide_eq_true_eq, decide_eq_false_iff_not] at c23; omega
      refine cReg (tQ rfl (qMove rfl) (tQ rfl (qConv Tryd.runUnderlying5 Tryd.runUnderlying21 rfl (c := 241) (by rw [hf]; rfl)) (tQ rfl (qShl rfl rfl (by omega) (c := -2147483648) (by rfl)) (tQ rfl (qShr rfl rfl (by omega) (c := -1) (by rfl)) (tQ rfl (qAssign rfl) (tEnd (xThen (cSeq (cReg (tQ rfl (qMove rfl) (tQ rfl (qIdxStrB Tryd.runUnderlying9 rfl rfl (j := 0) (by omega) (by omega)) (tQ rfl (qConv Tryd.runUnderlying5 Tryd.runUnderlying21 rfl (w32 (by omega) (by omega))) (tQ rfl (qMove rfl) (tQ rfl (qAndNot rfl rfl (c := 0) (andNot_i32 _)) ?_))))))))))))))
      refine tQ rfl (qMove rfl) (tQ rfl (qAnd rfl rfl (c := 65533) (by rfl)) (tQ rfl (qOr rfl rfl (c := 65533) (by rfl)) (tQ rfl (qAssign rfl) (tQ rfl (qAssign rfl) (tEnd (xThen (cRet (xRetThen ?_))))))))
      refine xRet2 _ _ Tryd.results158 rfl rfl fun w' s' => ⟨?_, s'.toExt (Sub.refl _)⟩
      rw [decode_bad h0 (chr_out hb h128 (by omega))]
      all_goals rfl
    · refine cSkip (xThen (cSeq ?_))
      have hr : 194 ≤ B s 0 ∧ B s 0 < 245 := by simp only [decide_eq_true_eq, decide_eq_false_iff_not] at c23; omega
      obtain ⟨f1, f2, f3, f4, f5⟩ := ft4 hr.1 hr.2
      have hacc : atN (hp w) 1 (0 + fstV (B s 0) / 16 * 2) 2 = some [.int .u8 (loOf (B s 0) : Nat), .int .u8 (hiOf (B s 0) : Nat)] := by
        have := hT.accept _ f3
        rw [f4, f5] at this
        simpa using this
      refine cReg (tQ rfl (qMove rfl) (tQ rfl (qAnd rfl rfl (and_u8 _ ft2).1) (tQ rfl (qConv Tryd.runUnderlying5 Tryd.runUnderlying3 rfl (w64 (by omega) (by omega))) (tQ rfl (qAssign rfl) (tEnd (xThen (cSeq (cReg (tQ rfl (qMove rfl) (tQ rfl (qShr rfl rfl (by omega) (and_u8 _ ft2).2.2.2.2) (tQ rfl (qIdxAddrArr Tryd.runUnderlying235 Tryd.sizeOf234 rfl rfl rfl (by omega)) (tQ rfl (qLdN Tryd.isAgg234 Tryd.sizeOf234 rfl hacc) (tAlloc rfl Tryd.zeroValue234 rfl (cs := [_, _]) fun b9 => (tStoreN 0 Tryd.sizeOf234 rfl rfl rfl (by simp [Value.oneCell']) rfl (by simp) ?_))))))))))))))
      refine tEnd (xThen (cSeq (cSeq (cReg (tQ rfl (qMove rfl) (tQ rfl (qMove rfl) (tQ rfl (qLt rfl rfl) (tEnd (xThen ?_)))))))))
      refine cIf rfl (fun c45 => ?_) (fun c45 => ?_)
      · refine cSeq (cReg (tQ rfl (qAssign rfl) (tQ rfl (qAssign rfl) (tEnd (xThen (cRet (xRetThen ?_)))))))
        refine xRet2 _ _ Tryd.results158 rfl rfl fun w' s' => ⟨?_, s'.toExt (Sub.refl _)⟩
        rw [decode_bad h0 (by rw [chr_bad h128 (by simp only [decide_eq_true_eq, decide_eq_false_iff_not] at c45; omega)])]
        all_goals rfl
      · refine cSkip (xThen (cSeq ?_))
        have hsz : ¬ s.size < 0 + nOf (B s 0) := by simp only [decide_eq_true_eq, decide_eq_false_iff_not] at c45; omega
        refine cReg (tQ rfl (qMove rfl) (tQ rfl (qIdxStrB Tryd.runUnderlying9 rfl rfl (j := 0 + 1) (by omega) (by omega)) (tQ rfl (qAssign rfl) (tEnd (xThen (cSeq (cSeq (cReg (tQ rfl (qMove rfl) (tQ rfl (qFieldAddr Tryd.runUnderlying234 rfl Tryd.sizeOf5 rfl rfl rfl) (tQ rfl (qLd1M 0 Tryd.isAgg5 rfl rfl rfl) (tQ rfl (qLt rfl rfl) (tQ rfl (qMove rfl) ?_)))))))))))))
        refine tCase 52 rfl (fun g52 => ?_) (fun g52 => ?_)
        · refine tNo rfl rfl rfl rfl (tNo rfl rfl rfl rfl (tNo rfl rfl rfl rfl (tNo rfl rfl rfl rfl (tQ rfl (qPickT rfl rfl) (tEnd (xThen (cIfT rfl (cSeq (cReg (tQ rfl (qAssign rfl) (tQ rfl (qAssign rfl) (tEnd (xThen (cRet (xRetThen ?_)))))))))))))))
          refine xRet2 _ _ Tryd.results158 rfl rfl fun w' s' => ⟨?_, s'.toExt (Sub.refl _)⟩
          rw [decode_bad h0 (chr_second hr.1 hr.2 hsz (by simp only [decide_eq_true_eq, decide_eq_false_iff_not] at *; omega))]
          all_goals rfl
        · refine tGo rfl rfl (tQ rfl (qFieldAddr Tryd.runUnderlying234 rfl Tryd.sizeOf5 rfl rfl rfl) (tGo rfl rfl (tQ rfl (qLd1M 0 Tryd.isAgg5 rfl rfl rfl) (tGo rfl rfl (tQ rfl (qMove rfl) (tGo rfl rfl (tQ rfl (qLt rfl rfl) (tQ rfl (qPickF rfl rfl) (tEnd (xThen ?_))))))))))
          refine cIf rfl (fun c57 => ?_) (fun c57 => ?_)
          · refine cSeq (cReg (tQ rfl (qAssign rfl) (tQ rfl (qAssign rfl) (tEnd (xThen (cRet (xRetThen ?_)))))))
            refine xRet2 _ _ Tryd.results158 rfl rfl fun w' s' => ⟨?_, s'.toExt (Sub.refl _)⟩
            rw [decode_bad h0 (chr_second hr.1 hr.2 hsz (by simp only [decide_eq_true_eq, decide_eq_false_iff_not] at *; omega))]
            all_goals rfl
          · refine cSkip (xThen (cSeq (cSeq ?_)))
            have hc1 : loOf (B s 0) ≤ B s (0 + 1) ∧ B s (0 + 1) ≤ hiOf (B s 0) := by simp only [decide_eq_true_eq, decide_eq_false_iff_not] at g52 c57; omega
            refine cReg (tQ rfl (qMove rfl) (tQ rfl (qLe rfl rfl) (tEnd (xThen ?_))))
            refine cIf rfl (fun c59 => ?_) (fun c59 => ?_)
            · refine cSeq (cReg (tQ rfl (qMove rfl) (tQ rfl (qAnd rfl rfl (and_u8 _ hb).2.2.1) (tQ rfl (qConv Tryd.runUnderlying5 Tryd.runUnderlying21 rfl (w32 (by omega) (by omega))) (tQ rfl (qShl rfl rfl (by omega) (shl_i32 (k := 6) (m := 64) rfl (by omega) (by omega))) (tQ rfl (qMove rfl) (tQ rfl (qAnd rfl rfl (and_u8 _ hb1).2.2.2.1) (tQ rfl (qConv Tryd.runUnderlying5 Tryd.runUnderlying21 rfl (w32 (by omega) (by omega))) (tQ rfl (qOr rfl rfl (c := (((B s 0 % 32) * 64 + B s (0 + 1) % 64 : Nat) : Int)) ((or_i32 (a := B s 0 % 32) (b := B s (0 + 1) % 64) (k := 6) (m := 64) rfl (by omega) (by omega)).trans (by omega))) (tQ rfl (qAssign rfl) (tQ rfl (qAssign rfl) (tEnd (xThen (cRet (xRetThen ?_)))))))))))))))
              refine xRet2 _ _ Tryd.results158 rfl rfl fun w' s' => ⟨?_, s'.toExt (Sub.refl _)⟩
              rw [decode_ok h0 (chr_two hr.1 (by simp only [decide_eq_true_eq, decide_eq_false_iff_not] at c59; omega) hsz hc1) (by simp)]
              all_goals rfl
            · refine cSkip (xThen (cSeq ?_))
              have hn3 : 3 ≤ nOf (B s 0) := by simp only [decide_eq_true_eq, decide_eq_false_iff_not] at c59; omega
              refine cReg (tQ rfl (qMove rfl) (tQ rfl (qIdxStrB Tryd.runUnderlying9 rfl rfl (j := 0 + 2) (by omega) (by omega)) (tQ rfl (qAssign rfl) (tEnd (xThen (cSeq (cSeq (cReg (tQ rfl (qMove rfl) (tQ rfl (qLt rfl rfl) (tQ rfl (qMove rfl) ?_)))))))))))
              refine tCase 72 rfl (fun g72 => ?_) (fun g72 => ?_)
              · refine tNo rfl rfl rfl rfl (tNo rfl rfl rfl rfl (tQ rfl (qPickT rfl rfl) (tEnd (xThen (cIfT rfl (cSeq (cReg (tQ rfl (qAssign rfl) (tQ rfl (qAssign rfl) (tEnd (xThen (cRet (xRetThen ?_)))))))))))))
                refine xRet2 _ _ Tryd.results158 rfl rfl fun w' s' => ⟨?_, s'.toExt (Sub.refl _)⟩
                rw [decode_bad h0 (chr_third hr.1 hr.2 hn3 hsz (by simp only [decide_eq_true_eq, decide_eq_false_iff_not] at *; omega))]
                all_goals rfl
              · refine tGo rfl rfl (tQ rfl (qMove rfl) (tGo rfl rfl (tQ rfl (qLt rfl rfl) (tQ rfl (qPickF rfl rfl) (tEnd (xThen ?_))))))
                refine cIf rfl (fun c75 => ?_) (fun c75 => ?_)
                · refine cSeq (cReg (tQ rfl (qAssign rfl) (tQ rfl (qAssign rfl) (tEnd (xThen (cRet (xRetThen ?_)))))))
                  refine xRet2 _ _ Tryd.results158 rfl rfl fun w' s' => ⟨?_, s'.toExt (Sub.refl _)⟩
                  rw [decode_bad h0 (chr_third hr.1 hr.2 hn3 hsz (by simp only [decide_eq_true_eq, decide_eq_false_iff_not] at *; omega))]
                  all_goals rfl
                · refine cSkip (xThen (cSeq (cSeq ?_)))
                  have hc2 : 128 ≤ B s (0 + 2) ∧ B s (0 + 2) ≤ 191 := by simp only [decide_eq_true_eq, decide_eq_false_iff_not] at g72 c75; omega
                  refine cReg (tQ rfl (qMove rfl) (tQ rfl (qLe rfl rfl) (tEnd (xThen ?_))))
                  refine cIf rfl (fun c77 => ?_) (fun c77 => ?_)
                  · refine cSeq (cReg (tQ rfl (qMove rfl) (tQ rfl (qAnd rfl rfl (and_u8 _ hb).2.1) (tQ rfl (qConv Tryd.runUnderlying5 Tryd.runUnderlying21 rfl (w32 (by omega) (by omega))) (tQ rfl (qShl rfl rfl (by omega) (shl_i32 (k := 12) (m := 4096) rfl (by omega) (by omega))) (tQ rfl (qMove rfl) (tQ rfl (qAnd rfl rfl (and_u8 _ hb1).2.2.2.1) (tQ rfl (qConv Tryd.runUnderlying5 Tryd.runUnderlying21 rfl (w32 (by omega) (by omega))) (tQ rfl (qShl rfl rfl (by omega) (shl_i32 (k := 6) (m := 64) rfl (by omega) (by omega))) (tQ rfl (qOr rfl rfl (c := (((B s 0 % 16 * 64 + B s (0 + 1) % 64) * 64 : Nat) : Int)) ((or_i32 (a := B s 0 % 16) (b := B s (0 + 1) % 64 * 64) (k := 12) (m := 4096) rfl (by omega) (by omega)).trans (by omega))) (tQ rfl (qMove rfl) (tQ rfl (qAnd rfl rfl (and_u8 _ hb2).2.2.2.1) ?_))))))))))))
                    refine tQ rfl (qConv Tryd.runUnderlying5 Tryd.runUnderlying21 rfl (w32 (by omega) (by omega))) (tQ rfl (qOr rfl rfl (c := (((B s 0 % 16 * 64 + B s (0 + 1) % 64) * 64 + B s (0 + 2) % 64 : Nat) : Int)) ((or_i32 (a := B s 0 % 16 * 64 + B s (0 + 1) % 64) (b := B s (0 + 2) % 64) (k := 6) (m := 64) rfl (by omega) (by omega)).trans (by omega))) (tQ rfl (qAssign rfl) (tQ rfl (qAssign rfl) (tEnd (xThen (cRet (xRetThen ?_)))))))
                    refine xRet2 _ _ Tryd.results158 rfl rfl fun w' s' => ⟨?_, s'.toExt (Sub.refl _)⟩
                    rw [decode_ok h0 (chr_three hr.1 hn3 (by simp only [decide_eq_true_eq, decide_eq_false_iff_not] at c77; omega) hsz hc1 hc2) (by simp)]
                    all_goals rfl
                  · refine cSkip (xThen (cSeq ?_))
                    have hn4 : 4 ≤ nOf (B s 0) := by simp only [decide_eq_true_eq, decide_eq_false_iff_not] at c77; omega
                    refine cReg (tQ rfl (qMove rfl) (tQ rfl (qIdxStrB Tryd.runUnderlying9 rfl rfl (j := 0 + 3) (by omega) (by omega)) (tQ rfl (qAssign rfl) (tEnd (xThen (cSeq (cSeq (cReg (tQ rfl (qMove rfl) (tQ rfl (qLt rfl rfl) (tQ rfl (qMove rfl) ?_)))))))))))
                    refine tCase 95 rfl (fun g95 => ?_) (fun g95 => ?_)
                    · refine tNo rfl rfl rfl rfl (tNo rfl rfl rfl rfl (tQ rfl (qPickT rfl rfl) (tEnd (xThen (cIfT rfl (cSeq (cReg (tQ rfl (qAssign rfl) (tQ rfl (qAssign rfl) (tEnd (xThen (cRet (xRetThen ?_)))))))))))))
                      refine xRet2 _ _ Tryd.results158 rfl rfl fun w' s' => ⟨?_, s'.toExt (Sub.refl _)⟩
                      rw [decode_bad h0 (chr_fourth hr.1 hr.2 hn4 hsz (by simp only [decide_eq_true_eq, decide_eq_false_iff_not] at *; omega))]
                      all_goals rfl
                    · refine tGo rfl rfl (tQ rfl (qMove rfl) (tGo rfl rfl (tQ rfl (qLt rfl rfl) (tQ rfl (qPickF rfl rfl) (tEnd (xThen ?_))))))
                      refine cIf rfl (fun c98 => ?_) (fun c98 => ?_)
                      · refine cSeq (cReg (tQ rfl (qAssign rfl) (tQ rfl (qAssign rfl) (tEnd (xThen (cRet (xRetThen ?_)))))))
                        refine xRet2 _ _ Tryd.results158 rfl rfl fun w' s' => ⟨?_, s'.toExt (Sub.refl _)⟩
                        rw [decode_bad h0 (chr_fourth hr.1 hr.2 hn4 hsz (by simp only [decide_eq_true_eq, decide_eq_false_iff_not] at *; omega))]
                        all_goals rfl
                      · refine cSkip (xThen (cSeq ?_))
                        have hc3 : 128 ≤ B s (0 + 3) ∧ B s (0 + 3) ≤ 191 := by simp only [decide_eq_true_eq, decide_eq_false_iff_not] at g95 c98; omega
                        refine cReg (tQ rfl (qMove rfl) (tQ rfl (qAnd rfl rfl (and_u8 _ hb).1) (tQ rfl (qConv Tryd.runUnderlying5 Tryd.runUnderlying21 rfl (w32 (by omega) (by omega))) (tQ rfl (qShl rfl rfl (by omega) (shl_i32 (k := 18) (m := 262144) rfl (by omega) (by omega))) (tQ rfl (qMove rfl) (tQ rfl (qAnd rfl rfl (and_u8 _ hb1).2.2.2.1) (tQ rfl (qConv Tryd.runUnderlying5 Tryd.runUnderlying21 rfl (w32 (by omega) (by omega))) (tQ rfl (qShl rfl rfl (by omega) (shl_i32 (k := 12) (m := 4096) rfl (by omega) (by omega))) (tQ rfl (qOr rfl rfl (c := (((B s 0 % 8 * 64 + B s (0 + 1) % 64) * 4096 : Nat) : Int)) ((or_i32 (a := B s 0 % 8) (b := B s (0 + 1) % 64 * 4096) (k := 18) (m := 262144) rfl (by omega) (by omega)).trans (by omega))) (tQ rfl (qMove rfl) (tQ rfl (qAnd rfl rfl (and_u8 _ hb2).2.2.2.1) ?_)))))))))))
                        refine tQ rfl (qConv Tryd.runUnderlying5 Tryd.runUnderlying21 rfl (w32 (by omega) (by omega))) (tQ rfl (qShl rfl rfl (by omega) (shl_i32 (k := 6) (m := 64) rfl (by omega) (by omega))) (tQ rfl (qOr rfl rfl (c := ((((B s 0 % 8 * 64 + B s (0 + 1) % 64) * 64 + B s (0 + 2) % 64) * 64 : Nat) : Int)) ((or_i32 (a := B s 0 % 8 * 64 + B s (0 + 1) % 64) (b := B s (0 + 2) % 64 * 64) (k := 12) (m := 4096) rfl (by omega) (by omega)).trans (by omega))) (tQ rfl (qMove rfl) (tQ rfl (qAnd rfl rfl (and_u8 _ hb3).2.2.2.1) (tQ rfl (qConv Tryd.runUnderlying5 Tryd.runUnderlying21 rfl (w32 (by omega) (by omega))) (tQ rfl (qOr rfl rfl (c := ((((B s 0 % 8 * 64 + B s (0 + 1) % 64) * 64 + B s (0 + 2) % 64) * 64 + B s (0 + 3) % 64 : Nat) : Int)) ((or_i32 (a := (B s 0 % 8 * 64 + B s (0 + 1) % 64) * 64 + B s (0 + 2) % 64) (b := B s (0 + 3) % 64) (k := 6) (m := 64) rfl (by omega) (by omega)).trans (by omega))) (tQ rfl (qAssign rfl) (tQ rfl (qAssign rfl) (tEnd (xThen (cRet ?_)))))))))))
                        refine xRet2 _ _ Tryd.results158 rfl rfl fun w' s' => ⟨?_, s'.toExt (Sub.refl _)⟩
                        rw [decode_ok h0 (chr_four hr.1 hr.2 hn4 hsz hc1 hc2 hc3) (by simp)]
                        all_goals rfl

theorem decodeIn {F : Hp} {w : World} {s : ByteArray} (hF : Sub F (hp w)) (hT : T F) (h0 : 0 < s.size) (hs : s.size ≤ 1000000000) :
    Calls Tryd.prog 134 [.string s].toArray w (fun e w' => e = .returned (.tuple #[.int .i32 (Utf8.decode s 0).1, .int .i64 (Utf8.decode s 0).2]) ∧ Ext w w') := by
  have hb := B_lt s 0
  refine enter' 19 Tryd.func134 Tryd.ntmps134 rfl rfl (cSeq (cReg (tQ rfl (qAssign rfl) (tQ rfl (qAssign rfl) (tEnd (xThen (cSeq (cSeq (cReg (tQ rfl (qMove rfl) (tQ rfl (qStrNe rfl rfl) (tQ rfl (qMove rfl) ?_))))))))))))
  refine tCase 6 rfl (fun g6 => ?_) (fun g6 => ?_)
  · refine tGo rfl rfl (tQ rfl (qMove rfl) (tGo rfl rfl (tQ rfl (qIdxStrB Tryd.runUnderlying9 rfl rfl (j := 0) (by omega) (by omega)) (tGo rfl rfl (tQ rfl (qLt rfl rfl) (tQ rfl (qPickT rfl rfl) (tEnd (xThen ?_))))))))
    refine cIf rfl (fun c10 => ?_) (fun c10 => ?_)
    · refine cSeq (cReg (tQ rfl (qMove rfl) (tQ rfl (qIdxStrB Tryd.runUnderlying9 rfl rfl (j := 0) (by omega) (by omega)) (tQ rfl (qConv Tryd.runUnderlying5 Tryd.runUnderlying21 rfl (w32 (by omega) (by omega))) (tQ rfl (qAssign rfl) (tQ rfl (qAssign rfl) (tEnd (xThen (cRet (xRetThen ?_))))))))))
      refine xRet2 _ _ Tryd.results134 rfl rfl fun w' s' => ⟨?_, s'.toExt (Sub.refl _)⟩
      have : chr s 0 = (B s 0, 1) := chr_ascii (by simp at c10; omega)
      rw [decode_ok h0 this (by simp)]
      all_goals rfl
    · simp at c10
      refine cReg (tQ rfl (qMove rfl) (tCallQ rfl Tryd.call158 (first := []) (captured := []) rfl rfl (fun w' s' => decodeSlow (hF.trans s'.sub) hT h0 (by omega) hs) (tQ rfl (qMove rfl) (tQ rfl (qExtract rfl rfl) (tQ rfl (qExtract rfl rfl) (tQ rfl (qAssign rfl) (tQ rfl (qAssign rfl) (tEnd (xThen (cRet ?_))))))))))
      refine xRet2 _ _ Tryd.results134 rfl rfl fun w' s' => ⟨?_, s'.toExt (Sub.refl _)⟩
      rfl
  · exfalso; simp at g6; subst g6; exact absurd h0 (by decide) --END

theorem borderU {F : Hp} {w : World} {s : ByteArray} {p : Int} (hF : Sub F (hp w)) (hT : T F) (hp : I64 p) (hs : s.size ≤ 1000000000) :
    Calls Tryd.prog 100 [.string s, .int .i64 p].toArray w (fun e w' => e = .returned (.bool (decide (brd s p))) ∧ Ext w w') := by
  obtain ⟨hp1, hp2⟩ := hp
  refine enter' 36 Tryd.func100 Tryd.ntmps100 rfl rfl (cSeq (cReg (tQ rfl (qAssign rfl) (tEnd (xThen (cSeq (cSeq (cReg (tQ rfl (qMove rfl) (tQ rfl (qLt rfl rfl) (tQ rfl (qMove rfl) ?_)))))))))))
  refine tCase 10 rfl (fun g10 => ?_) (fun g10 => ?_)
  · refine tNo rfl rfl rfl rfl (tNo rfl rfl rfl rfl (tNo rfl rfl rfl rfl (tNo rfl rfl rfl rfl (tQ rfl (qPickT rfl rfl) (tEnd (xThen (cIfT rfl (cSeq (cReg (tQ rfl (qAssign rfl) (tEnd (xThen (cRet (xRetThen ?_))))))))))))))
    refine xRet1 _ Tryd.results100 rfl fun w' s' => ⟨congrArg Value.bool (Eq.symm (decide_eq_false ?_)), s'.toExt (Sub.refl _)⟩
    rintro ⟨_, _, _⟩
    simp at *
    omega
  · refine tGo rfl rfl (tQ rfl (qMove rfl) (tGo rfl rfl (tQ rfl (qMove rfl) (tGo rfl rfl (tQ rfl (qLenStr Tryd.runUnderlying9 rfl rfl) (tGo rfl rfl (tQ rfl (qGt rfl rfl) (tQ rfl (qPickF rfl rfl) (tEnd (xThen ?_))))))))))
    refine cIf rfl (fun c15 => ?_) (fun c15 => ?_)
    · refine cSeq (cReg (tQ rfl (qAssign rfl) (tEnd (xThen (cRet (xRetThen ?_))))))
      refine xRet1 _ Tryd.results100 rfl fun w' s' => ⟨congrArg Value.bool (Eq.symm (decide_eq_false ?_)), s'.toExt (Sub.refl _)⟩
      rintro ⟨_, _, _⟩
      simp at *
      omega
    · refine cSkip (xThen (cSeq (cSeq ?_)))
      have hin : 0 ≤ p ∧ p ≤ s.size := by simp at g10 c15; omega
      obtain ⟨q, rfl⟩ : ∃ q : Nat, p = (q : Int) := ⟨p.toNat, by omega⟩
      refine cReg (tQ rfl (qMove rfl) (tQ rfl (qSub rfl rfl (w64 (by omega) (by omega))) (tQ rfl (qMax rfl rfl) (tQ rfl (qAssign rfl) (tEnd (xThen (cBlock (cLoop (⟨fun (k : Nat) => [(0, .string s), (1, .int .i64 q), (5, .int .i64 k)], fun (k : Nat) => hp w, fun (k : Nat) => [], fun (k : Nat) => q ≤ k + 3 ∧ k ≤ q ∧ ∀ j, j < k → q ≤ j + 3 → (chr s j).2 ≤ q - j, fun (k : Nat) => q - k⟩ : LI (Nat)) (loopStart _ (q - 3) ⟨by omega, by omega, fun j _ _ => by omega⟩ (le_of ⟨rfl, rfl, congrArg (fun z => some (Value.int .i64 z)) (by omega), trivial⟩) (fun _ s => s)) ?_))))))))
      rintro k ⟨hk1, hk2, hk⟩
      refine cSeq (cSeq (cReg (tQ rfl (qMove rfl) (tQ rfl (qMove rfl) (tQ rfl (qLt rfl rfl) (tEnd (xThen ?_)))))))
      refine cIf rfl (fun c21 => ?_) (fun c21 => ?_)
      · refine cSkip (xThen (cSeq (cBlock (cSeq ?_))))
        have hk3 : k < q := by simp at c21; omega
        have hse := size_ext s k
        have hdec : (Utf8.decode (s.extract k s.size) 0).2 = if (chr s k).2 = 0 then 1 else (chr s k).2 := by
          rw [decode_eq (by omega), chr_ext (by omega)]
          split <;> rfl
        have hcl := chr_le s k
        have hd4 : (Utf8.decode (s.extract k s.size) 0).2 ≤ 4 := by
          rw [hdec]; split <;> omega
        refine cReg (tQ rfl (qMove rfl) (tQ rfl (qMove rfl) (tQ rfl (qSliceStr Tryd.runUnderlying9 rfl ⟨fun _ e => (by cases e; exact ⟨_, rfl⟩), fun e => (by cases e)⟩ ⟨fun _ e => (by cases e), fun _ => rfl⟩ (by omega) (by omega)) (tCallQ rfl Tryd.call134 (first := []) (captured := []) rfl rfl (fun w' s' => decodeIn (hF.trans s'.sub) hT (by omega) (by omega)) (tQ rfl (qMove rfl) (tQ rfl (qExtract rfl rfl) (tQ rfl (qExtract rfl rfl) (tQ rfl (qAssign rfl) (tQ rfl (qAssign rfl) (tEnd (xThen (cSeq (cReg (tQ rfl (qMove rfl) ?_))))))))))))))
        refine tQ rfl (qMove rfl) (tQ rfl (qAdd rfl rfl (w64 (by omega) (by omega))) (tQ rfl (qMove rfl) (tQ rfl (qGt rfl rfl) (tEnd (xThen ?_)))))
        refine cIf rfl (fun c35 => ?_) (fun c35 => ?_)
        · refine cSeq (cReg (tQ rfl (qAssign rfl) (tEnd (xThen (cRet (xRetBlock (xRetThen (xRetThen (xRetBlock (xRetThen ?_))))))))))
          refine xRet1 _ Tryd.results100 rfl fun w' s' => ⟨congrArg Value.bool (Eq.symm (decide_eq_false ?_)), s'.toExt (Sub.refl _)⟩
          rintro ⟨_, _, b1, b2, b3⟩
          rw [Int.toNat_natCast] at b1 b2 b3
          simp at c35
          have : k + 1 = q ∨ k + 2 = q ∨ k + 3 = q := by omega
          split at hdec
          · omega
          · rcases this with h | h | h
            · have := b1 (by omega); rw [show q - 1 = k by omega] at this; omega
            · have := b2 (by omega); rw [show q - 2 = k by omega] at this; omega
            · have := b3 (by omega); rw [show q - 3 = k by omega] at this; omega
        · refine cSkip (xBlock (xThen (cReg (tQ rfl (qMove rfl) (tQ rfl (qAdd rfl rfl (w64 (by omega) (by omega))) (tQ rfl (qAssign rfl) (tEnd ?_)))))))
          refine xRound _ (k + 1) ?_ (by dsimp only; omega) (le_of ⟨rfl, rfl, rfl, trivial⟩) (fun _ s => s)
          refine ⟨by omega, by omega, fun j j1 j2 => ?_⟩
          rcases Nat.lt_or_ge j k with h | h
          · exact hk j h j2
          · obtain rfl : j = k := by omega
            simp at c35
            split at hdec <;> omega
      · refine cExit (xExitThen (xExitThen (xExitBlock (xThen (cSeq (cReg (tQ rfl (qAssign rfl) (tEnd (xThen (cRet ?_))))))))))
        refine xRet1 _ Tryd.results100 rfl fun w' s' => ⟨congrArg Value.bool (Eq.symm (decide_eq_true ?_)), s'.toExt (Sub.refl _)⟩
        have hk4 : k = q := by simp at c21; omega
        refine ⟨by omega, by omega, ?_, ?_, ?_⟩
        · rw [Int.toNat_natCast]; intro h; have := hk (q - 1) (by omega) (by omega); omega
        · rw [Int.toNat_natCast]; intro h; have := hk (q - 2) (by omega) (by omega); omega
        · rw [Int.toNat_natCast]; intro h; have := hk (q - 3) (by omega) (by omega); omega

end Go.V
