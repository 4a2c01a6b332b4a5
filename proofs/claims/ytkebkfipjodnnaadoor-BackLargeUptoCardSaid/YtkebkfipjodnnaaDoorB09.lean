/-
  Lemmas of this claim's own, part 10: contracts of the functions that the statement reaches, and the plain facts behind them.
-/
import Derived.Test.YtkebkfipjodnnaaDoorB08
set_option linter.unusedVariables false
set_option linter.unusedSimpArgs false
namespace Go.V
open Go.Proofs
set_option linter.unusedVariables false
set_option linter.unusedSimpArgs false

theorem best_ {F : Hp} {M : List Chunk} {w0 w : World} {bw cw L : Nat} {Aw : Option Nat} {c0 c1 c2 c3 c4 c5 c6 c7 c8 c10 : Value} {ways : List (List Int)} {wv : List Value} {longest : Bool} (s0 : WS F (blk bw [c0, c1, c2, c3, c4, c5, c6, c7, c8, rowV Aw ways.length cw, c10] 152 :: row Aw cw 24 1 wv :: M) w0 w) (hAw : Aw = none → cw = 0 ∧ ways.length = 0)
    (hw : WvOk F L ways wv) (hL : 2 ≤ L) (hwl : ways.length ≤ 2700000000000) :
    Calls Tryd.prog 95 [.pointer (some ⟨bw, 0, none⟩), .bool longest].toArray w (fun e w' => ∃ v, e = .returned v ∧ ∃ F' M', (BestV F L (Bst longest ways) v ∧ F' = F ∧ M' = blk bw [c0, c1, c2, c3, c4, c5, c6, c7, c8, rowV Aw ways.length cw, c10] 152 :: row Aw cw 24 1 wv :: M) ∧ WS F' M' w0 w') := by
  refine Calls.mono (enterG (R := fun v w' => ∃ F' M', (BestV F L (Bst longest ways) v ∧ F' = F ∧ M' = blk bw [c0, c1, c2, c3, c4, c5, c6, c7, c8, rowV Aw ways.length cw, c10] 152 :: row Aw cw 24 1 wv :: M) ∧ WS F' M' w0 w') 52 Tryd.func95 Tryd.ntmps95 rfl rfl s0 ?_) (fun e w' ⟨v, h1, h2⟩ => ⟨v, h1, h2⟩)
  refine cSeq (cReg (tQ rfl (qAssign rfl) (tEnd (xThen (cSeq (cSeq (cReg (tQ rfl (qMove rfl) (tQ rfl (qNil rfl) (tQ rfl (qFieldAddr Tryd.runUnderlying152 rfl Tryd.sizeOf50 rfl rfl rfl) (tQ rfl (qLd1M 0 Tryd.isAgg50 rfl rfl rfl) (tQ rfl (qLen Tryd.runUnderlying50 rfl rfl) (tQ rfl (qEq rfl rfl) (tEnd (xThen ?_)))))))))))))))
  refine cIf rfl (fun c12 => ?_) (fun c12 => ?_)
  · refine cSeq (cReg (tQ rfl (qAssign rfl) (tEnd (xThen (cRet (xRetThen ?_))))))
    refine xRet1 _ Tryd.results95 rfl fun w' s' => ⟨F, _, ⟨?_, rfl, rfl⟩, s'⟩
    have h0 : ways = [] := by simpa using c12
    subst h0
    refine ⟨fun _ => rfl, fun mm h => ?_⟩
    unfold Bst at h
    cases longest <;> cases h
  · have hne : 0 < ways.length := by simp at c12; exact List.length_pos_iff.2 c12
    obtain ⟨bA, rfl⟩ : ∃ b, Aw = some b := by
      cases Aw with
      | none => have := (hAw rfl).2; omega
      | some b => exact ⟨b, rfl⟩
    obtain ⟨hyl, A0, c00, hwv, hy⟩ := hw.at_ 0 hne
    refine cSkip (xThen (cSeq (cReg (tQ rfl (qMove rfl) (tQ rfl (qNil rfl) (tQ rfl (qFieldAddr Tryd.runUnderlying152 rfl Tryd.sizeOf50 rfl rfl rfl) (tQ rfl (qLd1M 0 Tryd.isAgg50 rfl rfl rfl) (tQ rfl (qIdxAddr Tryd.runUnderlying50 Tryd.sizeOf24 rfl rfl (show _ = ((0 : Nat) : Int) from rfl) (by omega)) (tQ rfl (qLd1Row 1 Tryd.isAgg24 rfl rfl hwv) (tQ rfl (qAssign rfl) (tEnd (xThen (cSeq (cSeq (cReg (tQ rfl (qAssign rfl) (tEnd (xThen (cBlock (cLoop (⟨fun (⟨i, cur, AC, cC⟩ : Nat × List Int × Option Addr × Nat) => [(0, .pointer (some ⟨bw, 0, none⟩)), (1, .bool longest), (5, .slice AC L cC), (6, .int .i64 i)], fun (⟨i, cur, AC, cC⟩ : Nat × List Int × Option Addr × Nat) => F, fun (⟨i, cur, AC, cC⟩ : Nat × List Int × Option Addr × Nat) => blk bw [c0, c1, c2, c3, c4, c5, c6, c7, c8, rowV (some bA) ways.length cw, c10] 152 :: row (some bA) cw 24 1 wv :: M, fun (⟨i, cur, AC, cC⟩ : Nat × List Int × Option Addr × Nat) => 1 ≤ i ∧ i ≤ ways.length ∧ (longest = false → i = 1) ∧ (ways.take i).foldl upd none = some cur ∧ cur.length = L ∧ RdI F .i64 AC L cur, fun (⟨i, cur, AC, cC⟩ : Nat × List Int × Option Addr × Nat) => ways.length - i⟩ : LI (Nat × List Int × Option Addr × Nat)) (loopStart _ (1, ways.getD 0 [], A0, c00) ⟨Nat.le_refl _, hne, fun _ => rfl, by rw [show (1 : Nat) = 0 + 1 from rfl, take_snoc (d := []) hne]; rfl, hyl, hy⟩ (le_of ⟨rfl, rfl, rfl, rfl, trivial⟩) (fun _ s => s)) ?_))))))))))))))))))))
    rintro ⟨i, cur, AC, cC⟩ ⟨hi1, hi2, hi3, hcur, hcl, hcr⟩
    refine cSeq (cSeq (cReg (tQ rfl (qMove rfl) (tQ rfl (qMove rfl) (tQ rfl (qNil rfl) (tQ rfl (qFieldAddr Tryd.runUnderlying152 rfl Tryd.sizeOf50 rfl rfl rfl) (tQ rfl (qLd1M 0 Tryd.isAgg50 rfl rfl rfl) (tQ rfl (qLen Tryd.runUnderlying50 rfl rfl) (tQ rfl (qLt rfl rfl) (tQ rfl (qMove rfl) ?_))))))))))
    refine tCase 26 rfl (fun g26 => ?_) (fun g26 => ?_)
    · refine tGo rfl rfl (tQ rfl (qMove rfl) (tQ rfl (qPickT rfl rfl) (tEnd (xThen ?_))))
      refine cIf rfl (fun c28 => ?_) (fun c28 => ?_)
      · have hlt : i < ways.length := by
          have := c28
          simp at g26
          omega
        have hlg : longest = true := by simpa using c28
        refine cSkip (xThen ?_)
        refine cCut (⟨fun (⟨cur2, AD, cD⟩ : List Int × Option Addr × Nat) => [(0, .pointer (some ⟨bw, 0, none⟩)), (1, .bool longest), (5, .slice AD L cD), (6, .int .i64 i)], fun (⟨cur2, AD, cD⟩ : List Int × Option Addr × Nat) => F, fun (⟨cur2, AD, cD⟩ : List Int × Option Addr × Nat) => blk bw [c0, c1, c2, c3, c4, c5, c6, c7, c8, rowV (some bA) ways.length cw, c10] 152 :: row (some bA) cw 24 1 wv :: M, fun (⟨cur2, AD, cD⟩ : List Int × Option Addr × Nat) => upd (some cur) (ways.getD i []) = some cur2 ∧ cur2.length = L ∧ RdI F .i64 AD L cur2, fun (⟨cur2, AD, cD⟩ : List Int × Option Addr × Nat) => 0⟩ : LI (List Int × Option Addr × Nat)) ?_ ?_
        · refine cBlock (cSeq ?_)
          obtain ⟨hyl, A2, c2', hwv, hy⟩ := hw.at_ i (by omega)
          obtain ⟨bY, oY, rfl, hya⟩ := hy.at_ (by omega)
          obtain ⟨bC, oC, rfl, hca⟩ := hcr.at_ (by omega)
          refine cDrawM 12 [(0, true), (1, true), (2, true), (3, true), (4, true), (5, true), (6, true), (7, true), (8, true), (9, true), (10, true), (11, true)] Tryd.mixed (by kernel_rfl) (fun _ _ _ _ _ h => h) (dQ rfl rfl (qMove rfl) (fun _ s => s) (dQ rfl rfl (qNil rfl) (fun _ s => s) (dQ rfl rfl (qFieldAddr Tryd.runUnderlying152 rfl Tryd.sizeOf50 rfl rfl rfl) (fun _ s => s) (dQ rfl rfl (qLd1M 0 Tryd.isAgg50 rfl rfl rfl) (fun _ s => s) (dQ rfl rfl (qMove rfl) (fun _ s => s) (dQ rfl rfl (qIdxAddr Tryd.runUnderlying50 Tryd.sizeOf24 rfl rfl rfl (by omega)) (fun _ s => s) (dQ rfl rfl (qLd1Row 1 Tryd.isAgg24 rfl rfl (by rw [Nat.zero_add, Nat.mul_one]; exact hwv)) (fun _ s => s) (dQ rfl rfl (qIdxAddr Tryd.runUnderlying24 Tryd.sizeOf3 rfl rfl (show _ = ((1 : Nat) : Int) from rfl) (by omega)) (fun _ s => s) (dQ rfl rfl (qLd1 Tryd.isAgg3 rfl (hya 1 (by omega))) (fun _ s => s) (dQ rfl rfl (qMove rfl) (fun _ s => s) (dQ rfl rfl (qIdxAddr Tryd.runUnderlying24 Tryd.sizeOf3 rfl rfl (show _ = ((1 : Nat) : Int) from rfl) (by omega)) (fun _ s => s) ?_)))))))))))
          refine dQ rfl rfl (qLd1 Tryd.isAgg3 rfl (hca 1 (by omega))) (fun _ s => s) (dEnd (tQ rfl (qGt rfl rfl) (tEnd (xThen ?_))))
          refine cIf rfl (fun c43 => ?_) (fun c43 => ?_)
          · refine cReg (tQ rfl (qMove rfl) (tQ rfl (qNil rfl) (tQ rfl (qFieldAddr Tryd.runUnderlying152 rfl Tryd.sizeOf50 rfl rfl rfl) (tQ rfl (qLd1M 0 Tryd.isAgg50 rfl rfl rfl) (tQ rfl (qMove rfl) (tQ rfl (qIdxAddr Tryd.runUnderlying50 Tryd.sizeOf24 rfl rfl rfl (by omega)) (tQ rfl (qLd1Row 1 Tryd.isAgg24 rfl rfl (by rw [Nat.zero_add, Nat.mul_one]; exact hwv)) (tQ rfl (qAssign rfl) (tEnd (xBlock ?_))))))))))
            refine xMeet _ (ways.getD i [], some ⟨bY, oY, none⟩, c2') ?_ (le_of ⟨rfl, rfl, rfl, rfl, trivial⟩) (fun _ s => s)
            exact ⟨upd_lt (by simpa using c43), hyl, hy⟩
          · refine cSkip (xBlock ?_)
            refine xMeet _ (cur, some ⟨bC, oC, none⟩, cC) ?_ (le_of ⟨rfl, rfl, rfl, rfl, trivial⟩) (fun _ s => s)
            exact ⟨upd_ge' (by simpa using c43), hcl, hcr⟩
        · rintro ⟨cur2, AD, cD⟩ ⟨hu2, hcl2, hcr2⟩
          refine cReg (tQ rfl (qMove rfl) (tQ rfl (qAdd rfl rfl (w64 (by omega) (by omega))) (tQ rfl (qAssign rfl) (tEnd ?_))))
          refine xRound _ (i + 1, cur2, AD, cD) ?_ (by dsimp only; omega) (le_of ⟨rfl, rfl, rfl, rfl, trivial⟩) (fun _ s => s)
          exact ⟨by omega, by omega, fun e => (by rw [hlg] at e; cases e), by rw [take_snoc (d := []) hlt, List.foldl_append, hcur]; exact hu2, hcl2, hcr2⟩
      · refine cExit (xExitThen (xExitThen (xExitBlock (xThen (cSeq (cReg (tQ rfl (qMove rfl) (tQ rfl (qAssign rfl) (tEnd (xThen (cRet ?_)))))))))))
        refine xRet1 _ Tryd.results95 rfl fun w' s' => ⟨F, _, ⟨?_, rfl, rfl⟩, s'⟩
        have hb : Bst longest ways = some cur := by
          unfold Bst
          cases hlg : longest with
          | true =>
            have hie : i = ways.length := by
              first
                | (rw [hlg] at c28; cases c28)
                | (simp at g26; omega)
            rw [hie, List.take_length] at hcur
            simpa using hcur
          | false =>
            have hi0 := hi3 hlg
            subst hi0
            rw [show (1 : Nat) = 0 + 1 from rfl, take_snoc (d := []) (by omega)] at hcur
            have : some (ways.getD 0 []) = some cur := hcur
            simp only [Bool.false_eq_true, if_false]
            rw [← this]
            cases ways with
            | nil => simp at hi2
            | cons a l => rfl
        rw [hb]
        exact ⟨fun h => (by cases h), fun mm h => (by cases h; exact ⟨hcl, AC, cC, rfl, hcr⟩)⟩
    · refine tNo rfl rfl rfl rfl (tQ rfl (qPickF rfl rfl) (tEnd (xThen (cIfF rfl (cExit (xExitThen (xExitThen (xExitBlock (xThen (cSeq (cReg (tQ rfl (qMove rfl) (tQ rfl (qAssign rfl) (tEnd (xThen (cRet ?_))))))))))))))))
      refine xRet1 _ Tryd.results95 rfl fun w' s' => ⟨F, _, ⟨?_, rfl, rfl⟩, s'⟩
      have hb : Bst longest ways = some cur := by
        unfold Bst
        cases hlg : longest with
        | true =>
          have hie : i = ways.length := by
            first
              | (rw [hlg] at c28; cases c28)
              | (simp at g26; omega)
          rw [hie, List.take_length] at hcur
          simpa using hcur
        | false =>
          have hi0 := hi3 hlg
          subst hi0
          rw [show (1 : Nat) = 0 + 1 from rfl, take_snoc (d := []) (by omega)] at hcur
          have : some (ways.getD 0 []) = some cur := hcur
          simp only [Bool.false_eq_true, if_false]
          rw [← this]
          cases ways with
          | nil => simp at hi2
          | cons a l => rfl
      rw [hb]
      exact ⟨fun h => (by cases h), fun mm h => (by cases h; exact ⟨hcl, AC, cC, rfl, hcr⟩)⟩

theorem numb_ {F : Hp} {M : List Chunk} {w0 w : World} {bw cP np : Nat} {AP : Option Addr} {c0 c1 c2 c3 c4 c6 c7 c8 c9 c10 : Value} {ps : List Int} {at_ : Int} (s0 : WS F (blk bw [c0, c1, c2, c3, c4, .slice AP np cP, c6, c7, c8, c9, c10] 152 :: M) w0 w) (hP : RdI F .i64 AP np ps) (hnp : np ≤ 1000000000) (hat : ∃ f, f < ps.length ∧ gZ ps f = at_) :
    Calls Tryd.prog 142 [.pointer (some ⟨bw, 0, none⟩), .int .i64 at_].toArray w (fun e w' => ∃ v, e = .returned v ∧ ∃ F' M', (v = .int .i64 (firstOf ps at_ : Nat) ∧ F' = F ∧ M' = blk bw [c0, c1, c2, c3, c4, .slice AP np cP, c6, c7, c8, c9, c10] 152 :: M) ∧ WS F' M' w0 w') := by
  have hf := firstOf_lt hat
  have hpl := hP.len
  obtain ⟨bP, oP, rfl, hPa⟩ := hP.at_ (by omega)
  refine Calls.mono (enterG (R := fun v w' => ∃ F' M', (v = .int .i64 (firstOf ps at_ : Nat) ∧ F' = F ∧ M' = blk bw [c0, c1, c2, c3, c4, .slice (some ⟨bP, oP, none⟩) np cP, c6, c7, c8, c9, c10] 152 :: M) ∧ WS F' M' w0 w') 25 Tryd.func142 Tryd.ntmps142 rfl rfl s0 ?_) (fun e w' ⟨v, h1, h2⟩ => ⟨v, h1, h2⟩)
  refine cSeq (cReg (tQ rfl (qAssign rfl) (tEnd (xThen (cSeq (cSeq (cReg (tQ rfl (qAssign rfl) (tEnd (xThen (cBlock (cLoop (⟨fun (k : Nat) => [(0, .pointer (some ⟨bw, 0, none⟩)), (1, .int .i64 at_), (5, .int .i64 k)], fun (k : Nat) => F, fun (k : Nat) => blk bw [c0, c1, c2, c3, c4, .slice (some ⟨bP, oP, none⟩) np cP, c6, c7, c8, c9, c10] 152 :: M, fun (k : Nat) => k ≤ firstOf ps at_, fun (k : Nat) => np - k⟩ : LI (Nat)) (loopStart _ 0 (Nat.zero_le _) (le_of ⟨rfl, rfl, rfl, trivial⟩) (fun _ s => s)) ?_))))))))))))
  rintro k hk
  refine cSeq (cSeq (cReg (tQ rfl (qMove rfl) (tQ rfl (qMove rfl) (tQ rfl (qNil rfl) (tQ rfl (qFieldAddr Tryd.runUnderlying152 rfl Tryd.sizeOf24 rfl rfl rfl) (tQ rfl (qLd1M 0 Tryd.isAgg24 rfl rfl rfl) (tQ rfl (qLen Tryd.runUnderlying24 rfl rfl) (tQ rfl (qLt rfl rfl) (tEnd (xThen ?_)))))))))))
  refine cIf rfl (fun c12 => ?_) (fun c12 => ?_)
  · refine cSkip (xThen (cSeq (cBlock (cSeq ?_))))
    have hlt : k < np := by simp at c12; omega
    refine cReg (tQ rfl (qMove rfl) (tQ rfl (qNil rfl) (tQ rfl (qFieldAddr Tryd.runUnderlying152 rfl Tryd.sizeOf24 rfl rfl rfl) (tQ rfl (qLd1M 0 Tryd.isAgg24 rfl rfl rfl) (tQ rfl (qMove rfl) (tQ rfl (qIdxAddr Tryd.runUnderlying24 Tryd.sizeOf3 rfl rfl rfl (by omega)) (tQ rfl (qLd1 Tryd.isAgg3 rfl (hPa k hlt)) (tQ rfl (qMove rfl) (tQ rfl (qEq rfl rfl) (tEnd (xThen ?_)))))))))))
    refine cIf rfl (fun c23 => ?_) (fun c23 => ?_)
    · refine cSeq (cReg (tQ rfl (qMove rfl) (tQ rfl (qAssign rfl) (tEnd (xThen (cRet (xRetBlock (xRetThen (xRetThen (xRetBlock (xRetThen ?_)))))))))))
      refine xRet1 _ Tryd.results142 rfl fun w' s' => ⟨F, _, ⟨?_, rfl, rfl⟩, s'⟩
      have : k = firstOf ps at_ := by
        rcases Nat.lt_or_ge k (firstOf ps at_) with h | h
        · exact absurd (by simpa using c23) (firstOf_ne h (by omega))
        · omega
      rw [this]
    · refine cSkip (xBlock (xThen (cReg (tQ rfl (qMove rfl) (tQ rfl (qAdd rfl rfl (w64 (by omega) (by omega))) (tQ rfl (qAssign rfl) (tEnd ?_)))))))
      refine xRound _ (k + 1) ?_ (by dsimp only; omega) (le_of ⟨rfl, rfl, rfl, trivial⟩) (fun _ s => s)
      rcases Nat.lt_or_ge k (firstOf ps at_) with h | h
      · exact h
      · have : k = firstOf ps at_ := by omega
        rw [this, hf.2] at c23; simp at c23
  · refine cExit (xExitThen (xExitThen (xExitBlock (xThen (cSeq (cReg (tQ rfl (qAssign rfl) (tEnd (xThen (cRet ?_))))))))))
    exfalso
    simp at c12
    omega

theorem border12_ {F : Hp} {w : World} {s : ByteArray} {at_ : Int} {raw : Bool} (hF : Sub F (hp w)) (hat : I64 at_) (hsz : s.size ≤ 1000000000) :
    Calls Tryd.prog 19 [.string s, .int .i64 at_, .bool raw].toArray w (fun e w' => e = .returned (.bool (decide (brdM raw s at_))) ∧ Ext w w') := by
  refine enter' 19 Tryd.func19 Tryd.ntmps19 rfl rfl (cSeq (cReg (tQ rfl (qAssign rfl) (tEnd (xThen (cSeq (cSeq (cReg (tQ rfl (qMove rfl) (tEnd (xThen ?_)))))))))))
  refine cIf rfl (fun c7 => ?_) (fun c7 => ?_)
  · refine cSeq (cReg (tQ rfl (qMove rfl) (tQ rfl (qGe rfl rfl) (tQ rfl (qMove rfl) ?_))))
    refine tCase 10 rfl (fun g10 => ?_) (fun g10 => ?_)
    · refine tGo rfl rfl (tQ rfl (qMove rfl) (tGo rfl rfl (tQ rfl (qMove rfl) (tGo rfl rfl (tQ rfl (qLenStr Tryd.runUnderlying9 rfl rfl) (tGo rfl rfl (tQ rfl (qLe rfl rfl) (tQ rfl (qPickT rfl rfl) (tQ rfl (qAssign rfl) (tEnd (xThen (cRet (xRetThen ?_)))))))))))))
      refine xRet1 _ Tryd.results19 rfl fun w' s' => ⟨congrArg Value.bool ?_, s'.toExt (Sub.refl _)⟩
      have hr : raw = true := by simpa using c7
      have hbb : (brdM raw s at_) ↔ (0 ≤ at_ ∧ at_ ≤ s.size) := ⟨fun h => ⟨h.1, h.2.1⟩, fun h => ⟨h.1, h.2, fun e => (by rw [hr] at e; cases e)⟩⟩
      rw [Bool.eq_iff_iff]
      simp only [decide_eq_true_eq, hbb]
      simp at g10
      first
        | omega
        | (simp only [Bool.false_eq_true, false_iff]; omega)
    · refine tNo rfl rfl rfl rfl (tNo rfl rfl rfl rfl (tNo rfl rfl rfl rfl (tNo rfl rfl rfl rfl (tQ rfl (qPickF rfl rfl) (tQ rfl (qAssign rfl) (tEnd (xThen (cRet (xRetThen ?_)))))))))
      refine xRet1 _ Tryd.results19 rfl fun w' s' => ⟨congrArg Value.bool ?_, s'.toExt (Sub.refl _)⟩
      have hr : raw = true := by simpa using c7
      have hbb : (brdM raw s at_) ↔ (0 ≤ at_ ∧ at_ ≤ s.size) := ⟨fun h => ⟨h.1, h.2.1⟩, fun h => ⟨h.1, h.2, fun e => (by rw [hr] at e; cases e)⟩⟩
      rw [Bool.eq_iff_iff]
      simp only [decide_eq_true_eq, hbb]
      simp at g10
      first
        | omega
        | (simp only [Bool.false_eq_true, false_iff]; omega)
  · refine cSkip (xThen (cSeq (cReg (tQ rfl (qMove rfl) (tQ rfl (qMove rfl) (tCallQ rfl Tryd.call22 (first := []) (captured := []) rfl rfl (fun w' s' => border01 s'.sub hat hsz) (tQ rfl (qAssign rfl) (tEnd (xThen (cRet ?_))))))))))
    refine xRet1 _ Tryd.results19 rfl fun w' s' => ⟨congrArg Value.bool ?_, s'.toExt (Sub.refl _)⟩
    rw [Bool.eq_iff_iff]
    simp only [decide_eq_true_eq]
    exact ⟨fun h => ⟨h.1, h.2.1, fun _ => h⟩, fun h => h.2.2 (by simpa using c7)⟩

/-- How the reference's `open` answers. -/
structure OpnP (A B : Option Addr) (n m cA cB : Nat) (p : Prg) (s : ByteArray) (at_ : Int) (F : Hp) (M : List Chunk) (v : Value) (F' : Hp) (M' : List Chunk) : Prop where
  sub : Sub F F'
  out : ∃ pv kk, v = .tuple #[.pointer pv, .int .i64 kk, .int .i64 (gate2 p s at_)] ∧ (gate2 p s at_ ≠ 0 → M' = M) ∧ (gate2 p s at_ = 0 → kk = (firstOf (mP p.raw s) at_ : Nat) ∧ ∃ bw br AU cU AP cP, pv = some ⟨bw, 0, none⟩ ∧ M' = blk bw [.slice A n cA, .slice B m cB, .bool p.raw, .string s, .slice AU (mU p.raw s).length cU, .slice AP ((mU p.raw s).length + 1) cP, .slice none 0 0, .slice (some ⟨br, 0, none⟩) 65 65, .int .i64 (rankOf (mkOf p.insts) 65 : Nat), .slice none 0 0, .slice none 0 0] 152 :: M ∧
    RdI F' .i32 AU (mU p.raw s).length (mU p.raw s) ∧ RdI F' .i64 AP ((mU p.raw s).length + 1) (mP p.raw s) ∧ ∀ l, l ≤ 64 → mkOf p.insts l = true → at1 F' br (0 + l * 1) = some (.int .i64 (rankOf (mkOf p.insts) l : Nat)))
theorem mark_ok {p : Prg} (h : checkOk p) : ∀ k, k < p.insts.length → (gI p.insts k).op = 5 → 0 ≤ (gI p.insts k).n ∧ (gI p.insts k).n ≤ 63 := by
  intro k hk h5
  have := h.2.2 k hk
  unfold instOk at this
  omega
theorem look_ok {p : Prg} (s : ByteArray) : ∀ i, i < p.insts.length → (gI p.insts i).op = 4 → ∀ b, b < (mP p.raw s).length → ∃ q : Nat, gZ (mP p.raw s) b = (q : Int) ∧ q ≤ s.size := fun i _ _ b hb =>
  let ⟨q, h1, h2, _⟩ := place_nat hb
  ⟨q, h1, h2⟩
theorem opn_ {F : Hp} {M : List Chunk} {w0 w : World} {A B : Option Addr} {n m cA cB : Nat} {p : Prg} {s : ByteArray} {at_ : Int} (s0 : WS F M w0 w) (hg : RdG F A n B m p) (hc : m ≤ cB) (hat : I64 at_) (hsz : s.size ≤ 2000000) :
    Calls Tryd.prog 110 [.agg #[.slice A n cA, .slice B m cB, .bool p.raw], .string s, .int .i64 at_].toArray w (fun e w' => ∃ v, e = .returned v ∧ ∃ F' M', OpnP A B n m cA cB p s at_ F M v F' M' ∧ WS F' M' w0 w') := by
  have hil := hg.insts.len
  have hml := mU_len p.raw s
  have hpl := mP_len p.raw s
  refine Calls.mono (enterG (R := fun v w' => ∃ F' M', OpnP A B n m cA cB p s at_ F M v F' M' ∧ WS F' M' w0 w') 26 Tryd.func110 Tryd.ntmps110 rfl rfl s0 ?_) (fun e w' ⟨v, h1, h2⟩ => ⟨v, h1, h2⟩)
  refine cSeq (cReg (tBox rfl rfl rfl (cs := [_, _, _]) fun b3 => (tQ rfl (qAssign rfl) (tQ rfl (qAssign rfl) (tQ rfl (qAssign rfl) (tEnd (xThen (cSeq (cSeq (cReg (tQ rfl (qLdNM 0 Tryd.isAgg31 Tryd.sizeOf31 rfl rfl rfl rfl) (tCallQ rfl Tryd.call21 (first := []) (captured := []) rfl rfl (fun w' s' => check12 s'.sub hg hc) (tQ rfl (qNe rfl rfl) (tEnd (xThen ?_)))))))))))))))
  refine cIf rfl (fun c12 => ?_) (fun c12 => ?_)
  · refine cSeq (cReg (tQ rfl (qAssign rfl) (tQ rfl (qAssign rfl) (tQ rfl (qAssign rfl) (tEnd (xThen (cRet (xRetThen ?_))))))))
    have hnc : ¬ checkOk p := fun h => by rw [checkE_ok h] at c12; simp at c12
    have hg2 : gate2 p s at_ = 1 := if_pos hnc
    refine xRet3 _ _ _ Tryd.results110 rfl rfl rfl fun w' s' => ⟨F, M, ⟨Sub.refl _, none, 0, by rw [hg2], fun _ => rfl, fun h => by rw [hg2] at h; cases h⟩, s'.less (.cons _ (.refl _))⟩
  · refine cSkip (xThen (cSeq (cSeq (cReg (tQ rfl (qMove rfl) (tQ rfl (qMove rfl) (tQ rfl (qFieldAddr Tryd.runUnderlying31 rfl Tryd.sizeOf4 rfl rfl rfl) (tQ rfl (qLd1M 0 Tryd.isAgg4 rfl rfl rfl) (tCallQ rfl Tryd.call19 (first := []) (captured := []) rfl rfl (fun w' s' => border12_ s'.sub hat (by omega)) (tQ rfl (qNot rfl) (tEnd (xThen ?_))))))))))))
    refine cIf rfl (fun c18 => ?_) (fun c18 => ?_)
    · refine cSeq (cReg (tQ rfl (qAssign rfl) (tQ rfl (qAssign rfl) (tQ rfl (qAssign rfl) (tEnd (xThen (cRet (xRetThen ?_))))))))
      have hck : checkOk p := by
        refine Decidable.byContradiction fun h => ?_
        rw [checkE_bad h] at c12; simp at c12
      have hnb : ¬ brdM p.raw s at_ := by simpa using c18
      have hg2 : gate2 p s at_ = 3 := by unfold gate2; rw [if_neg (by simpa using hck), if_pos hnb]
      refine xRet3 _ _ _ Tryd.results110 rfl rfl rfl fun w' s' => ⟨F, M, ⟨Sub.refl _, none, 0, by rw [hg2], fun _ => rfl, fun h => by rw [hg2] at h; cases h⟩, s'.less (.cons _ (.refl _))⟩
    · refine cSkip (xThen (cSeq ?_))
      have hck : checkOk p := by
        refine Decidable.byContradiction fun h => ?_
        rw [checkE_bad h] at c12; simp at c12
      have hbr : brdM p.raw s at_ := by simpa using c18
      refine cReg (tQ rfl (qLdNM 0 Tryd.isAgg31 Tryd.sizeOf31 rfl rfl rfl rfl) (tQ rfl (qMove rfl) (tCallG rfl Tryd.call85 (first := []) (captured := []) rfl rfl (fun w' s' => lay_ s' hg.insts (by rw [← hil]; exact hck.1) (by rw [← hil]; exact mark_ok hck) (by omega)) fun v F1 M1 hP => ?_)))
      obtain ⟨hs1, bw, br, AU, cU, AP, cP, rfl, rfl, hUU, hPP, hrk⟩ := hP
      refine tQ rfl (qAssign rfl) (tEnd (xThen (cSeq (cReg (tQ rfl (qMove rfl) (tQ rfl (qMove rfl) (tQ rfl (qMove rfl) (tCallG rfl Tryd.call142 (first := []) (captured := []) rfl rfl (fun w' s' => numb_ s' hPP (by omega) (mem_place hbr)) fun v F2 M2 hP => ?_))))))))
      obtain ⟨rfl, rfl, rfl⟩ := hP
      refine tQ rfl (qAssign rfl) (tQ rfl (qAssign rfl) (tQ rfl (qAssign rfl) (tEnd (xThen (cRet ?_)))))
      have hg2 : gate2 p s at_ = 0 := by unfold gate2; rw [if_neg (by simpa using hck), if_neg (by simpa using hbr)]
      refine xRet3 _ _ _ Tryd.results110 rfl rfl rfl fun w' s' => ⟨F2, _, ⟨hs1, some ⟨bw, 0, none⟩, _, by rw [hg2], fun h => absurd hg2 h, fun _ => ⟨rfl, bw, br, AU, cU, AP, cP, rfl, rfl, hUU, hPP, hrk⟩⟩, s'.less (.cons_cons _ (.cons _ (.refl _)))⟩

theorem bestV_open {h : Hp} {L : Nat} {b : Option (List Int)} {v : Value} (hb : BestV h (2 * L + 2) b v) : ∃ A n c, v = .slice A n c ∧ (b = none → n = 0) ∧ (∀ mm, b = some mm → mm.length = n ∧ 0 < n ∧ RdI h .i64 A n mm) := by
  obtain ⟨h1, h2⟩ := hb
  cases b with
  | none => exact ⟨none, 0, 0, h1 rfl, fun _ => rfl, fun mm e => by cases e⟩
  | some mm =>
    obtain ⟨hl, A, c, e, hr⟩ := h2 mm rfl
    exact ⟨A, 2 * L + 2, c, e, fun e => (by cases e), fun mm' e' => by cases e'; exact ⟨hl, by omega, hr⟩⟩
theorem ways_len {p : Prg} {s : ByteArray} {n : Nat} (hn : n ≤ 20000) (hil : p.insts.length = n) (hp : (mP p.raw s).length ≤ 2000001) (bd : Nat) : (waysOf (hitsOf p s bd)).length ≤ 2700000000000 := by
  have h1 : ∀ (hs W : List (List Int)), (hs.foldl addW W).length ≤ W.length + hs.length := by
    intro hs
    induction hs with
    | nil => intro W; exact Nat.le_refl _
    | cons h hs ih =>
      intro W
      have := ih (addW W h)
      have h2 : (addW W h).length ≤ W.length + 1 := by unfold addW; split <;> simp
      simp only [List.foldl_cons, List.length_cons]
      omega
  have h2 := h1 (hitsOf p s bd) []
  have h3 : ∀ n V S, 3 * unvis (machOf p s) V + S.length ≤ n → (fin (machOf p s) V S).1.length ≤ unvis (machOf p s) V := by
    intro n
    induction n with
    | zero =>
      intro V S hn
      have : S = [] := List.eq_nil_of_length_eq_zero (by omega)
      subst this; rw [fin_nil]; exact Nat.zero_le _
    | succ n ih =>
      intro V S hn
      cases S with
      | nil => rw [fin_nil]; exact Nat.zero_le _
      | cons t S =>
        simp only [List.length_cons] at hn
        by_cases hs : V t.key = true ∨ t.key ∉ keys (machOf p s)
        · have e : fin (machOf p s) V (t :: S) = fin (machOf p s) V S := by rw [fin]; simp [hs]
          rw [e]; exact ih V S (by omega)
        · have hk : t.key ∈ keys (machOf p s) := Classical.byContradiction fun h => hs (.inr h)
          have hv : V t.key = false := by simpa using fun h => hs (.inl h)
          have hlt := unvis_add hk hv
          cases he : (machOf p s).step t with
          | die => rw [fin_die hk hv he]; have := ih _ S (by omega : 3 * unvis (machOf p s) (V.add t.key) + _ ≤ n); omega
          | go a => rw [fin_go hk hv he]; have := ih (V.add t.key) (a :: S) (by simp only [List.length_cons]; omega); omega
          | fork a b => rw [fin_fork hk hv he]; have := ih (V.add t.key) (a :: b :: S) (by simp only [List.length_cons]; omega); omega
          | hit sl => rw [fin_hit hk hv he]; have := ih (V.add t.key) S (by omega); simp only [List.length_cons]; omega
  have h4 := h3 _ noV [startT p s bd] (Nat.le_refl _)
  have h5 := unvis_le (machOf p s) noV
  have h6 : (machOf p s).ins.length * (machOf p s).ps.length * 65 ≤ 20000 * 2000001 * 65 := Nat.mul_le_mul_right 65 (Nat.mul_le_mul (by show p.insts.length ≤ _; omega) hp)
  unfold waysOf
  unfold hitsOf at h2 ⊢
  simp only [List.length_nil] at h2
  omega
theorem machFrom_ {F : Hp} {M : List Chunk} {w0 w : World} {A B : Option Addr} {n m cA cB : Nat} {p : Prg} {s : ByteArray} {at_ : Int} {longest : Bool} (s0 : WS F M w0 w) (hg : RdG F A n B m p) (hc : m ≤ cB) (hat : I64 at_) (hsz : s.size ≤ 2000000) :
    Calls Tryd.prog 98 [.agg #[.slice A n cA, .slice B m cB, .bool p.raw], .string s, .int .i64 at_, .bool longest].toArray w (fun e w' => ∃ v, e = .returned v ∧ ∃ F' M', (Sub F F' ∧ RefP (machFrom p s at_ longest) v F' ∧ M' = M) ∧ WS F' M' w0 w') := by
  refine Calls.mono (enterG (R := fun v w' => ∃ F' M', (Sub F F' ∧ RefP (machFrom p s at_ longest) v F' ∧ M' = M) ∧ WS F' M' w0 w') 35 Tryd.func98 Tryd.ntmps98 rfl rfl s0 ?_) (fun e w' ⟨v, h1, h2⟩ => ⟨v, h1, h2⟩)
  refine cSeq (cReg (tBox rfl rfl rfl (cs := [_, _, _]) fun b4 => (tQ rfl (qAssign rfl) (tQ rfl (qAssign rfl) (tEnd (xThen (cSeq (cReg (tQ rfl (qLdNM 0 Tryd.isAgg31 Tryd.sizeOf31 rfl rfl rfl rfl) (tQ rfl (qMove rfl) (tQ rfl (qMove rfl) (tCallG rfl Tryd.call110 (first := []) (captured := []) rfl rfl (fun w' s' => opn_ s' hg hc hat hsz) fun v F1 M1 hP => ?_))))))))))))
  obtain ⟨hs1, pv, kk, rfl, hg1, hg2⟩ := hP
  refine tQ rfl (qMove rfl) (tQ rfl (qExtract rfl rfl) (tQ rfl (qExtract rfl rfl) (tQ rfl (qExtract rfl rfl) (tQ rfl (qAssign rfl) (tQ rfl (qAssign rfl) (tQ rfl (qAssign rfl) (tEnd (xThen (cSeq (cSeq (cReg (tQ rfl (qMove rfl) (tQ rfl (qNe rfl rfl) (tEnd (xThen ?_)))))))))))))))
  refine cIf rfl (fun c23 => ?_) (fun c23 => ?_)
  · refine cSeq (cReg (tQ rfl (qMove rfl) (tQ rfl (qAssign rfl) (tQ rfl (qAssign rfl) (tEnd (xThen (cRet (xRetThen ?_))))))))
    obtain rfl := hg1 (by simpa using c23)
    have hb : machFrom p s at_ longest = ([], gate2 p s at_) := ans_bad (by simpa using c23)
    refine xRet2 _ _ Tryd.results98 rfl rfl fun w' s' => ⟨_, _, ⟨hs1, ⟨none, 0, by rw [hb]; rfl, by rw [hb]; exact rdI_nil _ _ _⟩, rfl⟩, s'.less (.cons _ (.refl _))⟩
  · refine cSkip (xThen (cSeq ?_))
    have hg0 : gate2 p s at_ = 0 := by simpa using c23
    obtain ⟨hck, hbr⟩ := gate2_ok hg0
    obtain ⟨rfl, bw, br, AU, cU, AP, cP, rfl, rfl, hUU, hPP, hrk⟩ := hg2 hg0
    clear hg1 hg2
    have hf := firstOf_lt (mem_place hbr)
    obtain ⟨f, hff⟩ : ∃ f, firstOf (mP p.raw s) at_ = f := ⟨_, rfl⟩
    have hml := mU_len p.raw s
    have hpl := mP_len p.raw s
    have hil := hg.insts.len
    have hnl := hg.names.len
    have hn20 := hck.1
    have hg40 := hck.2.1.1
    rw [hil] at hn20
    rw [hff] at hf
    subst hnl
    rw [← hpl] at hPP
    rw [← hpl]
    have hIO : ∀ i, i < n → instOk (gI p.insts i) n p.names.length p.raw := by have := hck.2.2; rw [hil] at this; exact this
    rw [hff]
    refine cReg (tQ rfl (qMove rfl) (tQ rfl (qMove rfl) (tCallG rfl Tryd.call90 (first := []) (captured := []) rfl rfl (fun w' s' => fromR_ (m := machOf p s) s' rfl (hg.insts.mono hs1) hn20 hg40 hIO (RdI.toW hUU) (RdI.toW hPP) hpl (by show (mP p.raw s).length ≤ _; omega) (by show f < (mP p.raw s).length; omega) hrk (fun i hi => look_ok s i (by rw [hil]; exact hi)) (by show s.size ≤ _; omega)) fun v F2 M2 hP => ?_)))
    obtain ⟨rfl, hs2, vb2, Aw, cw, wv, Aq, cq, hwv, haw, haq, rfl⟩ := hP
    generalize hx : refR (evs (machOf p s) noV [startM (machOf p s) p.names.length f]) = x at hwv haw haq ⊢
    have hwy : x.1 = waysOf (hitsOf p s f) := by rw [← hx]; exact refR_fst _ _ _
    have hwlen : x.1.length ≤ 2700000000000 := by
      rw [hwy]
      exact ways_len hn20.2 hil (by show (mP p.raw s).length ≤ 2000001; omega) _
    refine tEnd (xThen (cSeq (cReg (tQ rfl (qMove rfl) (tQ rfl (qMove rfl) (tCallG rfl Tryd.call95 (first := []) (captured := []) rfl rfl (fun w' s' => best_ s' haw hwv (by omega) hwlen) fun v F3 M3 hP => ?_))))))
    obtain ⟨hbv, e2, rfl⟩ := hP
    obtain rfl := e2.symm
    rw [hwy, best_ways] at hbv
    obtain ⟨A3, n3, c3, rfl, hn3, hs3⟩ : ∃ A3 n3 c3, v = .slice A3 n3 c3 ∧ (Bst longest (hitsOf p s f) = none → n3 = 0) ∧ (∀ mm, Bst longest (hitsOf p s f) = some mm → mm.length = n3 ∧ 0 < n3 ∧ RdI F2 .i64 A3 n3 mm) := bestV_open hbv
    refine tQ rfl (qAssign rfl) (tEnd (xThen (cSeq (cSeq (cReg (tQ rfl (qMove rfl) (tQ rfl (qLen Tryd.runUnderlying24 rfl rfl) (tQ rfl (qEq rfl rfl) (tEnd (xThen ?_))))))))))
    refine cIf rfl (fun c33 => ?_) (fun c33 => ?_)
    · refine cSeq (cReg (tQ rfl (qAssign rfl) (tQ rfl (qAssign rfl) (tEnd (xThen (cRet (xRetThen ?_)))))))
      have hbn : Bst longest (hitsOf p s f) = none := by
        cases h : Bst longest (hitsOf p s f) with
        | none => rfl
        | some mm => have := (hs3 mm h).2.1; simp at c33; omega
      have hb : machFrom p s at_ longest = ([], 7) := ans_none hg0 (by rw [hff]; exact hbn)
      refine xRet2 _ _ Tryd.results98 rfl rfl fun w' s' => ⟨_, _, ⟨hs1.trans hs2, ⟨none, 0, by rw [hb]; rfl, by rw [hb]; exact rdI_nil _ _ _⟩, rfl⟩, s'.less (.cons _ (.cons _ (.cons _ (.cons _ (.refl _)))))⟩
    · refine cSkip (xThen (cSeq (cReg (tQ rfl (qMove rfl) (tQ rfl (qAssign rfl) (tQ rfl (qAssign rfl) (tEnd (xThen (cRet ?_)))))))))
      obtain ⟨mm, hmm⟩ : ∃ mm, Bst longest (hitsOf p s f) = some mm := by
        cases h : Bst longest (hitsOf p s f) with
        | none => have := hn3 h; subst this; simp at c33
        | some mm => exact ⟨mm, rfl⟩
      obtain ⟨hl3, _, hr3⟩ := hs3 mm hmm
      have hb : machFrom p s at_ longest = (mm, 0) := ans_some hg0 (by rw [hff]; exact hmm)
      refine xRet2 _ _ Tryd.results98 rfl rfl fun w' s' => ⟨_, _, ⟨hs1.trans hs2, ⟨A3, c3, by rw [hb, ← hl3], by rw [hb]; rw [← hl3] at hr3; exact hr3⟩, rfl⟩, s'.less (.cons _ (.cons _ (.cons _ (.cons _ (.refl _)))))⟩

theorem machMatch_ {F : Hp} {M : List Chunk} {w0 w : World} {A B : Option Addr} {n m cA cB : Nat} {p : Prg} {s : ByteArray} {at_ : Int} {longest : Bool} (s0 : WS F M w0 w) (hg : RdG F A n B m p) (hc : m ≤ cB) (hat : I64 at_) (hsz : s.size ≤ 2000000) :
    Calls Tryd.prog 66 [.agg #[.slice A n cA, .slice B m cB, .bool p.raw], .string s, .int .i64 at_, .bool longest].toArray w (fun e w' => ∃ v, e = .returned v ∧ ∃ F' M', (Sub F F' ∧ RefP (machMatch p s at_ longest) v F' ∧ M' = M) ∧ WS F' M' w0 w') := by
  refine Calls.mono (enterG (R := fun v w' => ∃ F' M', (Sub F F' ∧ RefP (machMatch p s at_ longest) v F' ∧ M' = M) ∧ WS F' M' w0 w') 44 Tryd.func66 Tryd.ntmps66 rfl rfl s0 ?_) (fun e w' ⟨v, h1, h2⟩ => ⟨v, h1, h2⟩)
  refine cSeq (cReg (tBox rfl rfl rfl (cs := [_, _, _]) fun b4 => (tQ rfl (qAssign rfl) (tQ rfl (qAssign rfl) (tEnd (xThen (cSeq (cReg (tQ rfl (qLdNM 0 Tryd.isAgg31 Tryd.sizeOf31 rfl rfl rfl rfl) (tQ rfl (qMove rfl) (tQ rfl (qMove rfl) (tCallG rfl Tryd.call110 (first := []) (captured := []) rfl rfl (fun w' s' => opn_ s' hg hc hat hsz) fun v F1 M1 hP => ?_))))))))))))
  obtain ⟨hs1, pv, kk, rfl, hg1, hg2⟩ := hP
  refine tQ rfl (qMove rfl) (tQ rfl (qExtract rfl rfl) (tQ rfl (qExtract rfl rfl) (tQ rfl (qExtract rfl rfl) (tQ rfl (qAssign rfl) (tQ rfl (qAssign rfl) (tQ rfl (qAssign rfl) (tEnd (xThen (cSeq (cSeq (cReg (tQ rfl (qMove rfl) (tQ rfl (qNe rfl rfl) (tEnd (xThen ?_)))))))))))))))
  refine cIf rfl (fun c23 => ?_) (fun c23 => ?_)
  · refine cSeq (cReg (tQ rfl (qMove rfl) (tQ rfl (qAssign rfl) (tQ rfl (qAssign rfl) (tEnd (xThen (cRet (xRetThen ?_))))))))
    obtain rfl := hg1 (by simpa using c23)
    have hb : machMatch p s at_ longest = ([], gate2 p s at_) := ans_bad (by simpa using c23)
    refine xRet2 _ _ Tryd.results66 rfl rfl fun w' s' => ⟨_, _, ⟨hs1, ⟨none, 0, by rw [hb]; rfl, by rw [hb]; exact rdI_nil _ _ _⟩, rfl⟩, s'.less (.cons _ (.refl _))⟩
  · have hg0 : gate2 p s at_ = 0 := by simpa using c23
    obtain ⟨hck, hbr⟩ := gate2_ok hg0
    obtain ⟨rfl, bw, br, AU, cU, AP, cP, rfl, rfl, hUU, hPP, hrk⟩ := hg2 hg0
    clear hg1 hg2
    have hf := firstOf_lt (mem_place hbr)
    obtain ⟨f, hff⟩ : ∃ f, firstOf (mP p.raw s) at_ = f := ⟨_, rfl⟩
    have hml := mU_len p.raw s
    have hpl := mP_len p.raw s
    have hil := hg.insts.len
    have hnl := hg.names.len
    have hn20 := hck.1
    have hg40 := hck.2.1.1
    rw [hil] at hn20
    rw [hff] at hf
    subst hnl
    rw [← hpl] at hPP
    rw [← hpl]
    have hIO : ∀ i, i < n → instOk (gI p.insts i) n p.names.length p.raw := by have := hck.2.2; rw [hil] at this; exact this
    rw [hff]
    refine cSkip (xThen (cSeq (cBlock (cLoop (⟨fun (⟨Fl, bd, vb, vw, vq⟩ : Hp × Nat × Value × Value × Value) => [(3, .bool longest), (10, .pointer (some ⟨bw, 0, none⟩)), (11, .int .i64 bd)], fun (⟨Fl, bd, vb, vw, vq⟩ : Hp × Nat × Value × Value × Value) => Fl, fun (⟨Fl, bd, vb, vw, vq⟩ : Hp × Nat × Value × Value × Value) => blk bw [.slice A n cA, .slice B p.names.length cB, .bool p.raw, .string s, .slice AU (mU p.raw s).length cU, .slice AP (mP p.raw s).length cP, vb, .slice (some ⟨br, 0, none⟩) 65 65, .int .i64 (rankOf (mkOf p.insts) 65 : Nat), vw, vq] 152 :: blk b4 [.slice A n cA, .slice B p.names.length cB, .bool p.raw] 31 :: M, fun (⟨Fl, bd, vb, vw, vq⟩ : Hp × Nat × Value × Value × Value) => Sub F1 Fl ∧ f ≤ bd ∧ bd ≤ (mP p.raw s).length ∧ firstHit p s longest ((mP p.raw s).length - f) f = firstHit p s longest ((mP p.raw s).length - bd) bd, fun (⟨Fl, bd, vb, vw, vq⟩ : Hp × Nat × Value × Value × Value) => (mP p.raw s).length - bd⟩ : LI (Hp × Nat × Value × Value × Value)) (loopStart _ (F1, f, .slice none 0 0, .slice none 0 0, .slice none 0 0) ⟨Sub.refl _, Nat.le_refl _, by omega, rfl⟩ (le_of ⟨rfl, rfl, rfl, trivial⟩) (fun _ s => s)) ?_))))
    rintro ⟨Fl, bd, vb, vw, vq⟩ ⟨hFl, hbl, hbh, hfh⟩
    refine cSeq (cSeq (cReg (tQ rfl (qMove rfl) (tQ rfl (qMove rfl) (tQ rfl (qNil rfl) (tQ rfl (qFieldAddr Tryd.runUnderlying152 rfl Tryd.sizeOf24 rfl rfl rfl) (tQ rfl (qLd1M 0 Tryd.isAgg24 rfl rfl rfl) (tQ rfl (qLen Tryd.runUnderlying24 rfl rfl) (tQ rfl (qLt rfl rfl) (tEnd (xThen ?_)))))))))))
    refine cIf rfl (fun c31 => ?_) (fun c31 => ?_)
    · refine cSkip (xThen (cSeq (cBlock (cSeq ?_))))
      have hbd : bd < (mP p.raw s).length := by simp at c31; omega
      refine cReg (tQ rfl (qMove rfl) (tQ rfl (qMove rfl) (tCallG rfl Tryd.call90 (first := []) (captured := []) rfl rfl (fun w' s' => fromR_ (m := machOf p s) s' rfl (hg.insts.mono (hs1.trans hFl)) hn20 hg40 hIO (RdI.toW (hUU.mono hFl)) (RdI.toW (hPP.mono hFl)) hpl (by show (mP p.raw s).length ≤ _; omega) (by show bd < (mP p.raw s).length; omega) (fun l h1 h2 => at1_mono hFl (hrk l h1 h2)) (fun i hi => look_ok s i (by rw [hil]; exact hi)) (by show s.size ≤ _; omega)) fun v F2 M2 hP => ?_)))
      obtain ⟨rfl, hs2, vb2, Aw, cw, wv, Aq, cq, hwv, haw, haq, rfl⟩ := hP
      generalize hx : refR (evs (machOf p s) noV [startM (machOf p s) p.names.length bd]) = x at hwv haw haq ⊢
      have hwy : x.1 = waysOf (hitsOf p s bd) := by rw [← hx]; exact refR_fst _ _ _
      have hwlen : x.1.length ≤ 2700000000000 := by
        rw [hwy]
        exact ways_len hn20.2 hil (by show (mP p.raw s).length ≤ 2000001; omega) _
      refine tEnd (xThen (cSeq (cReg (tQ rfl (qMove rfl) (tQ rfl (qMove rfl) (tCallG rfl Tryd.call95 (first := []) (captured := []) rfl rfl (fun w' s' => best_ s' haw hwv (by omega) hwlen) fun v F3 M3 hP => ?_))))))
      obtain ⟨hbv, e2, rfl⟩ := hP
      obtain rfl := e2.symm
      rw [hwy, best_ways] at hbv
      obtain ⟨A3, n3, c3, rfl, hn3, hs3⟩ : ∃ A3 n3 c3, v = .slice A3 n3 c3 ∧ (Bst longest (hitsOf p s bd) = none → n3 = 0) ∧ (∀ mm, Bst longest (hitsOf p s bd) = some mm → mm.length = n3 ∧ 0 < n3 ∧ RdI F2 .i64 A3 n3 mm) := bestV_open hbv
      refine tQ rfl (qAssign rfl) (tEnd (xThen (cSeq (cReg (tQ rfl (qMove rfl) (tQ rfl (qLen Tryd.runUnderlying24 rfl rfl) (tQ rfl (qGt rfl rfl) (tEnd (xThen ?_)))))))))
      refine cIf rfl (fun c42 => ?_) (fun c42 => ?_)
      · refine cSeq (cReg (tQ rfl (qMove rfl) (tQ rfl (qAssign rfl) (tQ rfl (qAssign rfl) (tEnd (xThen (cRet (xRetBlock (xRetThen (xRetThen (xRetBlock (xRetThen ?_))))))))))))
        obtain ⟨mm, hmm⟩ : ∃ mm, Bst longest (hitsOf p s bd) = some mm := by
          cases h : Bst longest (hitsOf p s bd) with
          | none => have := hn3 h; subst this; simp at c42
          | some mm => exact ⟨mm, rfl⟩
        obtain ⟨hl3, _, hr3⟩ := hs3 mm hmm
        have hb : machMatch p s at_ longest = (mm, 0) := ans_some hg0 (by rw [hff, hfh]; exact first_some (by omega) hmm)
        refine xRet2 _ _ Tryd.results66 rfl rfl fun w' s' => ⟨_, _, ⟨hs1.trans (hFl.trans hs2), ⟨A3, c3, by rw [hb, ← hl3], by rw [hb]; rw [← hl3] at hr3; exact hr3⟩, rfl⟩, s'.less (.cons _ (.cons _ (.cons _ (.cons _ (.refl _)))))⟩
      · refine cSkip (xBlock (xThen (cReg (tQ rfl (qMove rfl) (tQ rfl (qAdd rfl rfl (w64 (by omega) (by omega))) (tQ rfl (qAssign rfl) (tEnd ?_)))))))
        have hbn : Bst longest (hitsOf p s bd) = none := by
          cases h : Bst longest (hitsOf p s bd) with
          | none => rfl
          | some mm => have := (hs3 mm h).2.1; simp at c42; omega
        refine xRound _ (F2, bd + 1, vb2, rowV Aw x.1.length cw, rowV Aq x.2.length cq) ?_ (by dsimp only; omega) (le_of ⟨rfl, rfl, rfl, trivial⟩) (fun _ s => s.less (.cons_cons _ (.cons _ (.cons _ (.cons_cons _ (.refl _))))))
        exact ⟨hFl.trans hs2, by omega, by omega, by rw [hfh, first_none (by omega) hbn]; rfl⟩
    · refine cExit (xExitThen (xExitThen (xExitBlock (xThen (cSeq ?_)))))
      have hbe : bd = (mP p.raw s).length := by simp at c31; omega
      refine cReg (tQ rfl (qAssign rfl) (tQ rfl (qAssign rfl) (tEnd (xThen (cRet ?_)))))
      have hb : machMatch p s at_ longest = ([], 7) := ans_none hg0 (by rw [hff, hfh, hbe, Nat.sub_self]; rfl)
      refine xRet2 _ _ Tryd.results66 rfl rfl fun w' s' => ⟨_, _, ⟨hs1.trans hFl, ⟨none, 0, by rw [hb]; rfl, by rw [hb]; exact rdI_nil _ _ _⟩, rfl⟩, s'.less (.cons _ (.cons _ (.refl _)))⟩

end Go.V
namespace Go.V
open Go.Proofs
set_option linter.unusedVariables false
set_option linter.unusedSimpArgs false

theorem large_ {F : Hp} {w : World} {A B : Option Addr} {n m cA cB : Nat} {p : Prg} {s : ByteArray} {at_ : Int} (hF : Sub F (hp w)) (hi : RdP F A n p.insts) (hn : n ≤ 20000) (hbr : brdM p.raw s at_) (hsz : s.size ≤ 2000000) :
    Calls Tryd.prog 47 [.agg #[.slice A n cA, .slice B m cB, .bool p.raw], .string s, .int .i64 at_].toArray w (fun e w' => e = .returned (.bool (decide (1048576 < p.insts.length * ((mP p.raw s).length - firstOf (mP p.raw s) at_)))) ∧ Ext w w') := by
  have hil := hi.len
  obtain ⟨hb1, hb2, hb3⟩ := hbr
  obtain ⟨q, rfl⟩ : ∃ q : Nat, at_ = (q : Int) := ⟨at_.toNat, by omega⟩
  have hqs : q ≤ s.size := by omega
  obtain ⟨D, hD⟩ : ∃ D, (mP p.raw s).length - firstOf (mP p.raw s) (q : Int) = D := ⟨_, rfl⟩
  rw [hD]
  have hpl := mP_len p.raw s
  have hml := mU_len p.raw s
  obtain ⟨nD, hnD⟩ : ∃ q, q = D * n := ⟨_, rfl⟩
  have hnD2 : nD ≤ 2000001 * 20000 := by rw [hnD]; exact Nat.mul_le_mul (by omega) hn
  refine enter' 41 Tryd.func47 Tryd.ntmps47 rfl rfl (cSeq (cReg (tBox rfl rfl rfl (cs := [_, _, _]) fun b3 => (tQ rfl (qAssign rfl) (tEnd (xThen (cSeq (cReg (tQ rfl (qMove rfl) (tQ rfl (qLenStr Tryd.runUnderlying9 rfl rfl) (tQ rfl (qMove rfl) (tQ rfl (qSub rfl rfl (w64 (by omega) (by omega))) (tQ rfl (qAdd rfl rfl (w64 (by omega) (by omega))) (tQ rfl (qAssign rfl) (tEnd (xThen ?_))))))))))))))))
  refine cCut (⟨fun (u : Unit) => [(3, .pointer (some ⟨b3, 0, none⟩)), (7, .int .i64 D)], fun (u : Unit) => hp w, fun (u : Unit) => [blk b3 [.slice A n cA, .slice B m cB, .bool p.raw] 31], fun (u : Unit) => True, fun (u : Unit) => 0⟩ : LI (Unit)) ?_ ?_
  · refine cSeq (cReg (tQ rfl (qFieldAddr Tryd.runUnderlying31 rfl Tryd.sizeOf4 rfl rfl rfl) (tQ rfl (qLd1M 0 Tryd.isAgg4 rfl rfl rfl) (tQ rfl (qNot rfl) (tEnd (xThen ?_))))))
    refine cIf rfl (fun c18 => ?_) (fun c18 => ?_)
    · have hraw : p.raw = false := by simpa using c18
      have hbb := hb3 hraw
      have hcount := borders_count hbb hqs
      rw [hraw] at hD
      rw [hD] at hcount
      refine cSeq (cReg (tQ rfl (qAssign rfl) (tEnd (xThen (cBlock (cLoop (⟨fun (⟨q', c⟩ : Nat × Nat) => [(1, .string s), (2, .int .i64 q'), (3, .pointer (some ⟨b3, 0, none⟩)), (7, .int .i64 c)], fun (⟨q', c⟩ : Nat × Nat) => hp w, fun (⟨q', c⟩ : Nat × Nat) => [blk b3 [.slice A n cA, .slice B m cB, .bool p.raw] 31], fun (⟨q', c⟩ : Nat × Nat) => q' ≤ s.size ∧ c + (unsAt s q').length = (unsAt s q).length + 1, fun (⟨q', c⟩ : Nat × Nat) => s.size - q'⟩ : LI (Nat × Nat)) (loopStart _ (q, 1) ⟨hqs, by omega⟩ (le_of ⟨rfl, rfl, rfl, rfl, trivial⟩) (fun _ s => s)) ?_))))))
      rintro ⟨q', c⟩ ⟨hq, hc⟩
      refine cSeq (cSeq (cReg (tQ rfl (qMove rfl) (tQ rfl (qMove rfl) (tQ rfl (qLenStr Tryd.runUnderlying9 rfl rfl) (tQ rfl (qLt rfl rfl) (tEnd (xThen ?_))))))))
      refine cIf rfl (fun c22 => ?_) (fun c22 => ?_)
      · refine cSkip (xThen (cBlock (cSeq ?_)))
        have hlt : q' < s.size := by simp at c22; omega
        have hun := unt_in hlt
        have hul := unt_le s q'
        have hcl := unsAt_len s q'
        have hcq := unsAt_len s q
        refine cReg (tQ rfl (qMove rfl) (tQ rfl (qMove rfl) (tCallQ rfl Tryd.call99 (first := []) (captured := []) rfl rfl (fun w' s' => by have := next01 (F := hp w) s'.sub hq (by omega); rw [if_pos hlt] at this; exact this) (tQ rfl (qMove rfl) (tQ rfl (qExtract rfl rfl) (tQ rfl (qExtract rfl rfl) (tQ rfl (qExtract rfl rfl) (tQ rfl (qAssign rfl) (tQ rfl (qAssign rfl) (tQ rfl (qAssign rfl) (tEnd (xThen (cSeq (cReg ?_))))))))))))))
        refine tQ rfl (qMove rfl) (tQ rfl (qMove rfl) (tQ rfl (qAdd rfl rfl (w64 (by omega) (by omega))) (tQ rfl (qAssign rfl) (tEnd (xThen (cReg (tQ rfl (qMove rfl) (tQ rfl (qAdd rfl rfl (w64 (by omega) (by omega))) (tQ rfl (qAssign rfl) (tEnd (xBlock ?_)))))))))))
        refine xRound _ (q' + (unt s q').2, c + 1) ?_ (by dsimp only; omega) (le_of ⟨rfl, rfl, rfl, rfl, trivial⟩) (fun _ s => s)
        refine ⟨hun, ?_⟩
        have hh := hc
        rw [unsAt_lt hlt, List.length_cons] at hh
        omega
      · have hDe : (c : Int) = (D : Int) := by
          have := hc
          rw [unsAt_ge (by simp at c22; omega), List.length_nil] at this
          omega
        refine cExit (xExitThen (xExitThen (xExitBlock ?_)))
        refine xMeet _ () ?_ (le_of ⟨rfl, (by show some (Value.int .i64 _) = some (Value.int .i64 _); rw [hDe]), trivial⟩) (fun _ s => s)
        trivial
    · have hraw : p.raw = true := by simpa using c18
      rw [hraw] at hD
      have hcount := borders_raw hqs
      rw [hD] at hcount
      have hDe : (s.size : Int) - q + 1 = (D : Int) := by omega
      refine cSkip ?_
      refine xMeet _ () ?_ (le_of ⟨rfl, (by show some (Value.int .i64 _) = some (Value.int .i64 _); rw [hDe]), trivial⟩) (fun _ s => s)
      trivial
  · rintro u -
    refine cSeq (cReg (tQ rfl (qMove rfl) (tQ rfl (qFieldAddr Tryd.runUnderlying31 rfl Tryd.sizeOf28 rfl rfl rfl) (tQ rfl (qLd1M 0 Tryd.isAgg28 rfl rfl rfl) (tQ rfl (qLen Tryd.runUnderlying28 rfl rfl) (tQ rfl (qMul rfl rfl (mulN hnD (by omega))) (tQ rfl (qGt rfl rfl) (tQ rfl (qAssign rfl) (tEnd (xThen (cRet ?_)))))))))))
    refine xRet1 _ Tryd.results47 rfl fun w' s' => ⟨congrArg Value.bool ?_, s'.toExt (Sub.refl _)⟩
    rw [hil]
    exact decide_eq_decide.2 (by rw [Nat.mul_comm n D, ← hnD]; omega)

theorem open14_ {F : Hp} {w : World} {A B : Option Addr} {n m cA cB : Nat} {p : Prg} {s : ByteArray} {at_ : Int} (hF : Sub F (hp w)) (hg : RdG F A n B m p) (hc : m ≤ cB) (hat : I64 at_) (hsz : s.size ≤ 2000000) :
    Calls Tryd.prog 97 [.agg #[.slice A n cA, .slice B m cB, .bool p.raw], .string s, .int .i64 at_].toArray w (fun e w' => e = .returned (.int .i64 (gate p s at_)) ∧ Ext w w') := by
  replace hg := hg.mono hF
  refine enter' 24 Tryd.func97 Tryd.ntmps97 rfl rfl (cSeq (cReg (tBox rfl rfl rfl (cs := [_, _, _]) fun b3 => (tQ rfl (qAssign rfl) (tEnd (xThen (cSeq (cSeq (cReg (tQ rfl (qLdNM 0 Tryd.isAgg31 Tryd.sizeOf31 rfl rfl rfl rfl) (tCallQ rfl Tryd.call21 (first := []) (captured := []) rfl rfl (fun w' s' => check12 s'.sub hg hc) (tQ rfl (qNe rfl rfl) (tEnd (xThen ?_))))))))))))))
  refine cIf rfl (fun c11 => ?_) (fun c11 => ?_)
  · refine cSeq (cReg (tQ rfl (qAssign rfl) (tEnd (xThen (cRet (xRetThen ?_))))))
    refine xRet1 _ Tryd.results97 rfl fun w' s' => ⟨congrArg (Value.int .i64) ?_, s'.toExt (Sub.refl _)⟩
    exact (gate_form fun h => by rw [checkE_ok h] at c11; simp at c11).symm
  · refine cSkip (xThen (cSeq (cReg (tQ rfl (qMove rfl) (tQ rfl (qMove rfl) (tQ rfl (qFieldAddr Tryd.runUnderlying31 rfl Tryd.sizeOf4 rfl rfl rfl) (tQ rfl (qLd1M 0 Tryd.isAgg4 rfl rfl rfl) (tCallQ rfl Tryd.call19 (first := []) (captured := []) rfl rfl (fun w' s' => border12_ s'.sub hat (by omega)) (tQ rfl (qAssign rfl) (tEnd (xThen (cSeq (cSeq (cReg (tQ rfl (qMove rfl) (tQ rfl (qNot rfl) (tEnd (xThen ?_))))))))))))))))))
    refine cIf rfl (fun c18 => ?_) (fun c18 => ?_)
    · refine cSeq (cReg (tQ rfl (qAssign rfl) (tEnd (xThen (cRet (xRetThen ?_))))))
      have hck : checkOk p := by
        refine Decidable.byContradiction fun h => ?_
        rw [checkE_bad h] at c11; simp at c11
      refine xRet1 _ Tryd.results97 rfl fun w' s' => ⟨congrArg (Value.int .i64) ?_, s'.toExt (Sub.refl _)⟩
      exact (gate_range hck (by simpa using c18)).symm
    · refine cSkip (xThen (cSeq ?_))
      have hck : checkOk p := by
        refine Decidable.byContradiction fun h => ?_
        rw [checkE_bad h] at c11; simp at c11
      have hbr : brdM p.raw s at_ := by simpa using c18
      refine cReg (tQ rfl (qLdNM 0 Tryd.isAgg31 Tryd.sizeOf31 rfl rfl rfl rfl) (tQ rfl (qMove rfl) (tQ rfl (qMove rfl) (tCallQ rfl Tryd.call47 (first := []) (captured := []) rfl rfl (fun w' s' => large_ s'.sub hg.insts (by have := hck.1.2; rw [hg.insts.len] at this; exact this) hbr hsz) (tQ rfl (qAssign rfl) (tEnd (xThen (cSeq (cSeq (cReg (tQ rfl (qMove rfl) (tEnd (xThen ?_)))))))))))))
      refine cIf rfl (fun c23 => ?_) (fun c23 => ?_)
      · refine cSeq (cReg (tQ rfl (qAssign rfl) (tEnd (xThen (cRet (xRetThen ?_))))))
        refine xRet1 _ Tryd.results97 rfl fun w' s' => ⟨congrArg (Value.int .i64) ?_, s'.toExt (Sub.refl _)⟩
        exact (gate_large hck hbr (by simpa using c23)).symm
      · refine cSkip (xThen (cSeq (cReg (tQ rfl (qAssign rfl) (tEnd (xThen (cRet ?_)))))))
        refine xRet1 _ Tryd.results97 rfl fun w' s' => ⟨congrArg (Value.int .i64) ?_, s'.toExt (Sub.refl _)⟩
        exact (gate_good hck hbr (by simpa using c23)).symm

theorem from14_ {F : Hp} {M : List Chunk} {w0 w : World} {A B : Option Addr} {n m cA cB : Nat} {p : Prg} {s : ByteArray} {at_ : Int} {longest : Bool} (s0 : WS F M w0 w) (hg : RdG F A n B m p) (hc : m ≤ cB) (hat : I64 at_) (hsz : s.size ≤ 2000000) :
    Calls Tryd.prog 45 [.agg #[.slice A n cA, .slice B m cB, .bool p.raw], .string s, .int .i64 at_, .bool longest].toArray w (fun e w' => ∃ v, e = .returned v ∧ ∃ F' M', (Sub F F' ∧ RefP (backFrom p s at_ longest) v F' ∧ M' = M) ∧ WS F' M' w0 w') := by
  refine Calls.mono (enterG (R := fun v w' => ∃ F' M', (Sub F F' ∧ RefP (backFrom p s at_ longest) v F' ∧ M' = M) ∧ WS F' M' w0 w') 25 Tryd.func45 Tryd.ntmps45 rfl rfl s0 ?_) (fun e w' ⟨v, h1, h2⟩ => ⟨v, h1, h2⟩)
  refine cSeq (cReg (tBox rfl rfl rfl (cs := [_, _, _]) fun b4 => (tQ rfl (qAssign rfl) (tQ rfl (qAssign rfl) (tEnd (xThen (cSeq (cReg (tQ rfl (qLdNM 0 Tryd.isAgg31 Tryd.sizeOf31 rfl rfl rfl rfl) (tQ rfl (qMove rfl) (tQ rfl (qMove rfl) (tCallQ rfl Tryd.call97 (first := []) (captured := []) rfl rfl (fun w' s' => open14_ s'.sub hg hc hat hsz) (tQ rfl (qAssign rfl) (tEnd (xThen (cSeq (cSeq (cReg (tQ rfl (qMove rfl) ?_)))))))))))))))))))
  refine tQ rfl (qNe rfl rfl) (tEnd (xThen ?_))
  refine cIf rfl (fun c16 => ?_) (fun c16 => ?_)
  · refine cSeq (cReg (tQ rfl (qMove rfl) (tQ rfl (qAssign rfl) (tQ rfl (qAssign rfl) (tEnd (xThen (cRet (xRetThen ?_))))))))
    have hb : backFrom p s at_ longest = ([], gate p s at_) := ans_bad (by simpa using c16)
    refine xRet2 _ _ Tryd.results45 rfl rfl fun w' s' => ⟨F, _, ⟨Sub.refl _, ⟨none, 0, by rw [hb]; rfl, by rw [hb]; exact rdI_nil _ _ _⟩, rfl⟩, s'.less (.cons _ (.refl _))⟩
  · refine cSkip (xThen (cSeq (cReg (tQ rfl (qLdNM 0 Tryd.isAgg31 Tryd.sizeOf31 rfl rfl rfl rfl) (tQ rfl (qMove rfl) (tQ rfl (qMove rfl) (tQ rfl (qMove rfl) (tCallG rfl Tryd.call98 (first := []) (captured := []) rfl rfl (fun w' s' => machFrom_ s' hg hc hat hsz) fun v F1 M1 hP => ?_))))))))
    obtain ⟨hs1, ⟨A1, c1, rfl, hr1⟩, rfl⟩ := hP
    refine tQ rfl (qExtract rfl rfl) (tQ rfl (qExtract rfl rfl) (tQ rfl (qAssign rfl) (tQ rfl (qAssign rfl) (tEnd (xThen (cRet ?_))))))
    have hb := (back_mach (l := longest) (show gate p s at_ = 0 by simpa using c16)).1
    refine xRet2 _ _ Tryd.results45 rfl rfl fun w' s' => ⟨F1, _, ⟨hs1, ⟨A1, c1, by rw [hb], by rw [hb]; exact hr1⟩, rfl⟩, s'.less (.cons _ (.refl _))⟩

theorem match14_ {F : Hp} {M : List Chunk} {w0 w : World} {A B : Option Addr} {n m cA cB : Nat} {p : Prg} {s : ByteArray} {at_ : Int} {longest : Bool} (s0 : WS F M w0 w) (hg : RdG F A n B m p) (hc : m ≤ cB) (hat : I64 at_) (hsz : s.size ≤ 2000000) :
    Calls Tryd.prog 46 [.agg #[.slice A n cA, .slice B m cB, .bool p.raw], .string s, .int .i64 at_, .bool longest].toArray w (fun e w' => ∃ v, e = .returned v ∧ ∃ F' M', (Sub F F' ∧ RefP (backMatch p s at_ longest) v F' ∧ M' = M) ∧ WS F' M' w0 w') := by
  refine Calls.mono (enterG (R := fun v w' => ∃ F' M', (Sub F F' ∧ RefP (backMatch p s at_ longest) v F' ∧ M' = M) ∧ WS F' M' w0 w') 25 Tryd.func46 Tryd.ntmps46 rfl rfl s0 ?_) (fun e w' ⟨v, h1, h2⟩ => ⟨v, h1, h2⟩)
  refine cSeq (cReg (tBox rfl rfl rfl (cs := [_, _, _]) fun b4 => (tQ rfl (qAssign rfl) (tQ rfl (qAssign rfl) (tEnd (xThen (cSeq (cReg (tQ rfl (qLdNM 0 Tryd.isAgg31 Tryd.sizeOf31 rfl rfl rfl rfl) (tQ rfl (qMove rfl) (tQ rfl (qMove rfl) (tCallQ rfl Tryd.call97 (first := []) (captured := []) rfl rfl (fun w' s' => open14_ s'.sub hg hc hat hsz) (tQ rfl (qAssign rfl) (tEnd (xThen (cSeq (cSeq (cReg (tQ rfl (qMove rfl) ?_)))))))))))))))))))
  refine tQ rfl (qNe rfl rfl) (tEnd (xThen ?_))
  refine cIf rfl (fun c16 => ?_) (fun c16 => ?_)
  · refine cSeq (cReg (tQ rfl (qMove rfl) (tQ rfl (qAssign rfl) (tQ rfl (qAssign rfl) (tEnd (xThen (cRet (xRetThen ?_))))))))
    have hb : backMatch p s at_ longest = ([], gate p s at_) := ans_bad (by simpa using c16)
    refine xRet2 _ _ Tryd.results46 rfl rfl fun w' s' => ⟨F, _, ⟨Sub.refl _, ⟨none, 0, by rw [hb]; rfl, by rw [hb]; exact rdI_nil _ _ _⟩, rfl⟩, s'.less (.cons _ (.refl _))⟩
  · refine cSkip (xThen (cSeq (cReg (tQ rfl (qLdNM 0 Tryd.isAgg31 Tryd.sizeOf31 rfl rfl rfl rfl) (tQ rfl (qMove rfl) (tQ rfl (qMove rfl) (tQ rfl (qMove rfl) (tCallG rfl Tryd.call66 (first := []) (captured := []) rfl rfl (fun w' s' => machMatch_ s' hg hc hat hsz) fun v F1 M1 hP => ?_))))))))
    obtain ⟨hs1, ⟨A1, c1, rfl, hr1⟩, rfl⟩ := hP
    refine tQ rfl (qExtract rfl rfl) (tQ rfl (qExtract rfl rfl) (tQ rfl (qAssign rfl) (tQ rfl (qAssign rfl) (tEnd (xThen (cRet ?_))))))
    have hb := (back_mach (l := longest) (show gate p s at_ = 0 by simpa using c16)).2
    refine xRet2 _ _ Tryd.results46 rfl rfl fun w' s' => ⟨F1, _, ⟨hs1, ⟨A1, c1, by rw [hb], by rw [hb]; exact hr1⟩, rfl⟩, s'.less (.cons _ (.refl _))⟩

theorem wants_ {F : Hp} {M : List Chunk} {w0 w : World} {A B : Option Addr} {n m cA cB : Nat} {o : Opn} (s0 : WS F M w0 w) (hg : RdG F A n B m o.p) (hc : m ≤ cB) (hat : I64 o.at_) (hsz : o.s.size ≤ 2000000) :
    Calls Tryd.prog 14 [.agg #[.slice A n cA, .slice B m cB, .bool o.p.raw, .string o.s, .int .i64 o.at_, .bool o.longest, .bool o.frm]].toArray w (fun e w' => ∃ v, e = .returned v ∧ ∃ F' M', (Sub F F' ∧ RefP (playA o) v F' ∧ M' = M) ∧ WS F' M' w0 w') := by
  refine Calls.mono (enterG (R := fun v w' => ∃ F' M', (Sub F F' ∧ RefP (playA o) v F' ∧ M' = M) ∧ WS F' M' w0 w') 28 Tryd.func14 Tryd.ntmps14 rfl rfl s0 ?_) (fun e w' ⟨v, h1, h2⟩ => ⟨v, h1, h2⟩)
  refine cSeq (cReg (tBox rfl rfl rfl (cs := [_, _, _, _, _, _, _]) fun b1 => (tQ rfl (qAssign rfl) (tQ rfl (qAssign rfl) (tEnd (xThen (cSeq (cSeq (cReg (tQ rfl (qFieldAddr Tryd.runUnderlying33 rfl Tryd.sizeOf4 rfl rfl rfl) (tQ rfl (qLd1M 0 Tryd.isAgg4 rfl rfl rfl) (tEnd (xThen ?_)))))))))))))
  refine cIf rfl (fun c5 => ?_) (fun c5 => ?_)
  · refine cSeq (cReg (tQ rfl (qFieldAddr Tryd.runUnderlying33 rfl Tryd.sizeOf31 rfl rfl rfl) (tQ rfl (qLdNM 0 Tryd.isAgg31 Tryd.sizeOf31 rfl rfl rfl rfl) (tQ rfl (qFieldAddr Tryd.runUnderlying33 rfl Tryd.sizeOf9 rfl rfl rfl) (tQ rfl (qLd1M 0 Tryd.isAgg9 rfl rfl rfl) (tQ rfl (qFieldAddr Tryd.runUnderlying33 rfl Tryd.sizeOf3 rfl rfl rfl) (tQ rfl (qLd1M 0 Tryd.isAgg3 rfl rfl rfl) (tQ rfl (qFieldAddr Tryd.runUnderlying33 rfl Tryd.sizeOf4 rfl rfl rfl) (tQ rfl (qLd1M 0 Tryd.isAgg4 rfl rfl rfl) (tCallG rfl Tryd.call45 (first := []) (captured := []) rfl rfl (fun w' s' => from14_ s' hg hc hat hsz) fun v F1 M1 hP => ?_))))))))))
    obtain ⟨hs1, ⟨A1, c1, rfl, hr1⟩, rfl⟩ := hP
    refine tQ rfl (qExtract rfl rfl) (tQ rfl (qExtract rfl rfl) (tQ rfl (qAssign rfl) (tQ rfl (qAssign rfl) (tEnd (xThen (cRet (xRetThen ?_)))))))
    have hb : playA o = backFrom o.p o.s o.at_ o.longest := by unfold playA; rw [if_pos c5]
    refine xRet2 _ _ Tryd.results14 rfl rfl fun w' s' => ⟨F1, _, ⟨hs1, ⟨A1, c1, by rw [hb], by rw [hb]; exact hr1⟩, rfl⟩, s'.less (.cons _ (.refl _))⟩
  · refine cSkip (xThen (cSeq (cReg (tQ rfl (qFieldAddr Tryd.runUnderlying33 rfl Tryd.sizeOf31 rfl rfl rfl) (tQ rfl (qLdNM 0 Tryd.isAgg31 Tryd.sizeOf31 rfl rfl rfl rfl) (tQ rfl (qFieldAddr Tryd.runUnderlying33 rfl Tryd.sizeOf9 rfl rfl rfl) (tQ rfl (qLd1M 0 Tryd.isAgg9 rfl rfl rfl) (tQ rfl (qFieldAddr Tryd.runUnderlying33 rfl Tryd.sizeOf3 rfl rfl rfl) (tQ rfl (qLd1M 0 Tryd.isAgg3 rfl rfl rfl) (tQ rfl (qFieldAddr Tryd.runUnderlying33 rfl Tryd.sizeOf4 rfl rfl rfl) (tQ rfl (qLd1M 0 Tryd.isAgg4 rfl rfl rfl) (tCallG rfl Tryd.call46 (first := []) (captured := []) rfl rfl (fun w' s' => match14_ s' hg hc hat hsz) fun v F1 M1 hP => ?_))))))))))))
    obtain ⟨hs1, ⟨A1, c1, rfl, hr1⟩, rfl⟩ := hP
    refine tQ rfl (qExtract rfl rfl) (tQ rfl (qExtract rfl rfl) (tQ rfl (qAssign rfl) (tQ rfl (qAssign rfl) (tEnd (xThen (cRet ?_))))))
    have hb : playA o = backMatch o.p o.s o.at_ o.longest := by unfold playA; rw [if_neg (by simp [c5])]
    refine xRet2 _ _ Tryd.results14 rfl rfl fun w' s' => ⟨F1, _, ⟨hs1, ⟨A1, c1, by rw [hb], by rw [hb]; exact hr1⟩, rfl⟩, s'.less (.cons _ (.refl _))⟩

theorem plays_ {F : Hp} {w : World} {A B : Option Addr} {n m cA cB : Nat} {o : Opn} (hF : Sub F (hp w)) (hT : T F) (hg : RdG F A n B m o.p) (hc : m ≤ cB) (hat : I64 o.at_) (hsz : o.s.size ≤ 2000000) :
    Calls Tryd.prog 15 [.agg #[.slice A n cA, .slice B m cB, .bool o.p.raw, .string o.s, .int .i64 o.at_, .bool o.longest, .bool o.frm]].toArray w (fun e w' => ∃ v, e = .returned v ∧ ∃ C, Own w w' C ∧ ResP (playA o) v C) := by
  replace hg := hg.mono hF
  replace hT := hT.mono hF
  refine Calls.mono (enterG (R := fun v w' => ∃ C, Own w w' C ∧ ResP (playA o) v C) 28 Tryd.func15 Tryd.ntmps15 rfl rfl (WS.start w) ?_) (fun e w' ⟨v, h1, h2⟩ => ⟨v, h1, h2⟩)
  refine cSeq (cReg (tBox rfl rfl rfl (cs := [_, _, _, _, _, _, _]) fun b1 => (tQ rfl (qAssign rfl) (tQ rfl (qAssign rfl) (tEnd (xThen (cSeq (cSeq (cReg (tQ rfl (qFieldAddr Tryd.runUnderlying33 rfl Tryd.sizeOf4 rfl rfl rfl) (tQ rfl (qLd1M 0 Tryd.isAgg4 rfl rfl rfl) (tEnd (xThen ?_)))))))))))))
  refine cIf rfl (fun c5 => ?_) (fun c5 => ?_)
  · refine cSeq (cReg (tQ rfl (qFieldAddr Tryd.runUnderlying33 rfl Tryd.sizeOf31 rfl rfl rfl) (tQ rfl (qLdNM 0 Tryd.isAgg31 Tryd.sizeOf31 rfl rfl rfl rfl) (tQ rfl (qFieldAddr Tryd.runUnderlying33 rfl Tryd.sizeOf9 rfl rfl rfl) (tQ rfl (qLd1M 0 Tryd.isAgg9 rfl rfl rfl) (tQ rfl (qFieldAddr Tryd.runUnderlying33 rfl Tryd.sizeOf3 rfl rfl rfl) (tQ rfl (qLd1M 0 Tryd.isAgg3 rfl rfl rfl) (tQ rfl (qFieldAddr Tryd.runUnderlying33 rfl Tryd.sizeOf4 rfl rfl rfl) (tQ rfl (qLd1M 0 Tryd.isAgg4 rfl rfl rfl) (tCallO rfl Tryd.call20 (first := []) (captured := []) rfl rfl (Φ := ResP (backFrom o.p o.s o.at_ o.longest)) (fun w' s' => fromO_ s'.sub hT hg hc hat hsz) fun v C hΦ => ?_))))))))))
    obtain ⟨Ab, cb, rfl, hA, rfl⟩ := hΦ
    refine tQ rfl (qExtract rfl rfl) (tQ rfl (qExtract rfl rfl) (tQ rfl (qAssign rfl) (tQ rfl (qAssign rfl) (tEnd (xThen (cRet (xRetThen ?_)))))))
    have hb : playA o = backFrom o.p o.s o.at_ o.longest := by unfold playA; rw [if_pos c5]
    refine xRet2 _ _ Tryd.results15 rfl rfl fun w' s' => ⟨_, (s'.less (.cons_cons _ (.cons _ (.refl _)))).toOwn (Sub.refl _), Ab, cb, by rw [hb], by rw [hb]; exact hA, by rw [hb]⟩
  · refine cSkip (xThen (cSeq (cReg (tQ rfl (qFieldAddr Tryd.runUnderlying33 rfl Tryd.sizeOf31 rfl rfl rfl) (tQ rfl (qLdNM 0 Tryd.isAgg31 Tryd.sizeOf31 rfl rfl rfl rfl) (tQ rfl (qFieldAddr Tryd.runUnderlying33 rfl Tryd.sizeOf9 rfl rfl rfl) (tQ rfl (qLd1M 0 Tryd.isAgg9 rfl rfl rfl) (tQ rfl (qFieldAddr Tryd.runUnderlying33 rfl Tryd.sizeOf3 rfl rfl rfl) (tQ rfl (qLd1M 0 Tryd.isAgg3 rfl rfl rfl) (tQ rfl (qFieldAddr Tryd.runUnderlying33 rfl Tryd.sizeOf4 rfl rfl rfl) (tQ rfl (qLd1M 0 Tryd.isAgg4 rfl rfl rfl) (tCallO rfl Tryd.call18 (first := []) (captured := []) rfl rfl (Φ := ResP (backMatch o.p o.s o.at_ o.longest)) (fun w' s' => matchO_ s'.sub hT hg hc hat hsz) fun v C hΦ => ?_))))))))))))
    obtain ⟨Ab, cb, rfl, hA, rfl⟩ := hΦ
    refine tQ rfl (qExtract rfl rfl) (tQ rfl (qExtract rfl rfl) (tQ rfl (qAssign rfl) (tQ rfl (qAssign rfl) (tEnd (xThen (cRet ?_))))))
    have hb : playA o = backMatch o.p o.s o.at_ o.longest := by unfold playA; rw [if_neg (by simp [c5])]
    refine xRet2 _ _ Tryd.results15 rfl rfl fun w' s' => ⟨_, (s'.less (.cons_cons _ (.cons _ (.refl _)))).toOwn (Sub.refl _), Ab, cb, by rw [hb], by rw [hb]; exact hA, by rw [hb]⟩

theorem build54 (vs : List (Nat × Value)) (cs : List Value) (w : World) (h : Instr.fill (fun i => ([(0, 1), (1, 1)] : List (Nat × Nat))[i]?) ([.int .i32 0, .int .i32 0] : List Value).toArray vs = some cs.toArray) : (Instr.build 54 vs.toArray).run Tryd.prog w = .ok (.agg cs.toArray) w := by
  have hz : ∀ w, (zeroValue 54).run Tryd.prog w = .ok (.agg #[.int .i32 0, .int .i32 0]) w := Tryd.zeroValue54
  simp only [Instr.build, Sem.run_bind, hz, Tryd.runUnderlying54, Result.andThen_ok]
  simp [Tryd.sizeOf21]
  simp only [Value.cells]
  rw [h]
  rfl
theorem a_ {w : World} :
    Calls Tryd.prog 44 ([] : List Value).toArray w (fun e w' => ∃ v, e = .returned v ∧ Ext w w' ∧ ∃ h', Fresh w w' h' ∧ ∃ b, v = .slice (some ⟨b, 0, none⟩) 1 1 ∧ (blk b [.int .i32 97, .int .i32 97] 54).At h') := by
  refine Calls.mono (enterG (R := fun v w' => Ext w w' ∧ ∃ h', Fresh w w' h' ∧ ∃ b, v = .slice (some ⟨b, 0, none⟩) 1 1 ∧ (blk b [.int .i32 97, .int .i32 97] 54).At h') 3 Tryd.func44 Tryd.ntmps44 rfl rfl (WS.start w) ?_) (fun e w' ⟨v, h1, h2⟩ => ⟨v, h1, h2⟩)
  refine cSeq (cReg (tQ rfl (qAssign rfl) (tEnd (xThen (cSeq (cReg (tQ rfl (qBuildS build54 (cs := [_, _]) rfl rfl) (tBuildSlice rfl Tryd.runUnderlying42 Tryd.sizeOf54 Tryd.zeroValue54 rfl rfl rfl rfl (cs := [_, _]) fun b2 => (tQ rfl (qAssign rfl) (tEnd (xThen (cRet ?_))))))))))))
  refine xRet1 _ Tryd.results44 rfl fun w' s' => ⟨s'.toExt (Sub.refl _), _, fresh_from _ _, b2, rfl, s'.atNew (Sub.refl _) (.head _)⟩

theorem wakes_ {F : Hp} {w : World} (hF : Sub F (hp w)) (hT : T F) :
    Calls Tryd.prog 13 ([] : List Value).toArray w (fun e w' => e = .returned (.bool true) ∧ Ext w w') := by
  replace hT := hT.mono hF
  refine Calls.mono (enterG (R := fun v w' => v = .bool true ∧ Ext w w') 21 Tryd.func13 Tryd.ntmps13 rfl rfl (WS.start w) ?_) (fun e w' ⟨v, h1, h2, h3⟩ => ⟨by rw [h1, h2], h3⟩)
  refine cSeq (cReg (tQ rfl (qAssign rfl) (tEnd (xThen (cSeq (cReg (tCallF rfl Tryd.call44 (first := []) (captured := []) rfl rfl (Φ := fun v h => ∃ b, v = .slice (some ⟨b, 0, none⟩) 1 1 ∧ (blk b [.int .i32 97, .int .i32 97] 54).At h) (fun _ _ _ k ⟨b, h1, h2⟩ => ⟨b, h1, h2.mono k⟩) (fun w' s' => a_) fun v1 F1 hS1 hv1 => ?_)))))))
  obtain ⟨b2, rfl, hset⟩ := hv1
  refine tQ rfl (qBuildS build44 (cs := [_, _, _, _, _]) rfl rfl) (tQ rfl (qBuildS build44 (cs := [_, _, _, _, _]) rfl rfl) (tBuildSlice rfl Tryd.runUnderlying28 Tryd.sizeOf44 Tryd.zeroValue44 rfl rfl rfl rfl (cs := [_, _, _, _, _, _, _, _, _, _]) fun b7 => (tQ rfl (qBuildS build31 (cs := [_, _, _]) rfl rfl) (tAlloc rfl Tryd.zeroValue31 rfl (cs := [_, _, _]) fun b1 => (tStoreN 0 Tryd.sizeOf31 rfl rfl rfl (by simp [Value.oneCell']) rfl (by simp) (tEnd (xThen (cSeq (cFreeze 1 rfl fun FI hSI hAI hNI => ?_)))))))))
  have hgA : RdG FI (some ⟨b7, 0, none⟩) 2 none 0 pA := rd_pA hAI (hset.mono ((from_sub _ _).trans hSI))
  refine cReg (tQ rfl (qLdNM 0 Tryd.isAgg31 Tryd.sizeOf31 rfl rfl rfl rfl) (tCallO rfl Tryd.call18 (first := []) (captured := []) rfl rfl (Φ := ResP (backMatch pA sBA 0 false)) (fun w' s' => matchO_ (p := pA) (s := sBA) s'.sub (hT.mono (hS1.trans hSI)) hgA (Nat.le_refl _) ⟨by omega, by omega⟩ (by decide)) fun v C hΦ => ?_))
  rw [pA_match] at hΦ
  obtain ⟨Ab, cb, rfl, hA, rfl⟩ := hΦ
  refine tQ rfl (qMove rfl) (tQ rfl (qExtract rfl rfl) (tQ rfl (qExtract rfl rfl) (tQ rfl (qAssign rfl) (tQ rfl (qAssign rfl) (tEnd (xThen (cSeq (cReg (tQ rfl (qMove rfl) (tQ rfl (qEq rfl rfl) (tQ rfl (qMove rfl) ?_)))))))))))
  refine tCase 16 rfl (fun g16 => ?_) (fun g16 => ?_)
  · refine tGo rfl rfl (tQ rfl (qMove rfl) (tGo rfl rfl (tBuildSlice rfl Tryd.runUnderlying24 Tryd.sizeOf3 Tryd.zeroValue3 rfl rfl rfl rfl (cs := [_, _]) fun b18 => (tGo rfl rfl (tFreeze 0 rfl fun FA hSA hAA hNA => (tFreeze 0 rfl fun FB hSB hAB hNB => (tCallQ rfl Tryd.call16 (first := []) (captured := []) rfl rfl (fun w' s' => sameInts (xs := [1, 2]) (ys := [1, 2]) s'.sub (rd_of_row (hAB) rfl hA) (rdI_blk (xs := [1, 2]) (hAA.mono hSB) rfl) (by decide) (by decide)) (tQ rfl (qPickT rfl rfl) (tQ rfl (qAssign rfl) (tEnd (xThen (cRet ?_))))))))))))
    first
      | (exfalso; simp at g16; done)
      | exact (xRet1 _ Tryd.results13 rfl fun w' s' => ⟨rfl, s'.toExt (hS1.trans (hSI.trans (hSA.trans hSB)))⟩)
  · refine tNo rfl rfl rfl rfl (tNo rfl rfl rfl rfl (tNo rfl rfl rfl rfl (tQ rfl (qPickF rfl rfl) (tQ rfl (qAssign rfl) (tEnd (xThen (cRet ?_)))))))
    first
      | (exfalso; simp at g16; done)
      | exact (xRet1 _ Tryd.results13 rfl fun w' s' => ⟨rfl, s'.toExt (hS1.trans (hSI.trans (hSA.trans hSB)))⟩)

theorem backAll_ {F : Hp} {w : World} {A : Option Addr} {n c : Nat} {os : List Opn} (hF : Sub F (hp w)) (hT : T F) (ho : RdO F A n os) (hn : n ≤ 1000000000) :
    Calls Tryd.prog 3 [.slice A n c].toArray w (fun e w' => e = .returned (.bool true) ∧ Ext w w') := by
  replace hT := hT.mono hF
  replace ho := ho.mono hF
  have hBig : Big = 1048576 := rfl
  refine Calls.mono (enterG (R := fun v w' => v = .bool true ∧ Ext w w') 41 Tryd.func3 Tryd.ntmps3 rfl rfl (WS.start w) ?_) (fun e w' ⟨v, h1, h2, h3⟩ => ⟨by rw [h1, h2], h3⟩)
  refine cSeq (cReg (tQ rfl (qAssign rfl) (tEnd (xThen (cSeq (cSeq (cReg (tCallQ rfl Tryd.call13 (first := []) (captured := []) rfl rfl (fun w' s' => wakes_ s'.sub hT) (tQ rfl (qNot rfl) (tEnd (xThen ?_)))))))))))
  refine cIf rfl (fun c9 => ?_) (fun c9 => ?_)
  · refine cSeq (cReg (tQ rfl (qAssign rfl) (tEnd (xThen (cRet (xRetThen ?_))))))
    exfalso
    simp at c9
  · refine cSkip (xThen (cSeq (cSeq (cReg (tQ rfl (qAssign rfl) (tEnd (xThen (cBlock (cLoop (⟨fun (⟨Fl, k⟩ : Hp × Nat) => [(0, .slice A n c), (3, .int .i64 k)], fun (⟨Fl, k⟩ : Hp × Nat) => Fl, fun (⟨Fl, k⟩ : Hp × Nat) => [], fun (⟨Fl, k⟩ : Hp × Nat) => Sub (hp w) Fl ∧ k ≤ n, fun (⟨Fl, k⟩ : Hp × Nat) => n - k⟩ : LI (Hp × Nat)) (loopStart _ (hp w, 0) ⟨Sub.refl _, Nat.zero_le _⟩ (le_of ⟨rfl, rfl, trivial⟩) (fun _ s => s)) ?_)))))))))
    rintro ⟨Fl, k⟩ ⟨hFl, hk⟩
    refine cSeq (cSeq (cReg (tQ rfl (qMove rfl) (tQ rfl (qMove rfl) (tQ rfl (qLen Tryd.runUnderlying22 rfl rfl) (tQ rfl (qLt rfl rfl) (tEnd (xThen ?_))))))))
    refine cIf rfl (fun c13 => ?_) (fun c13 => ?_)
    · refine cSkip (xThen (cSeq (cBlock (cSeq ?_))))
      have hlt : k < n := by simp at c13; omega
      obtain ⟨b, o, rfl, hoo⟩ := ho.at_ (by omega)
      obtain ⟨Ai, ni, ci, Bi, mi, di, hc1, hg1, hat1, hs0, hN⟩ := hoo k hlt
      replace hg1 := hg1.mono hFl
      refine cReg (tQ rfl (qMove rfl) (tQ rfl (qMove rfl) (tQ rfl (qIdxAddr Tryd.runUnderlying22 Tryd.sizeOf33 rfl rfl rfl (by omega)) (tQ rfl (qLdN Tryd.isAgg33 Tryd.sizeOf33 rfl (atN_mono hFl hN)) (tCallG rfl Tryd.call14 (first := []) (captured := []) rfl rfl (fun w' s' => wants_ s' hg1 hc1 hat1 (by omega)) fun v F1 M1 hP => ?_)))))
      obtain ⟨hs1, ⟨A1, c1, rfl, hr1⟩, rfl⟩ := hP
      refine tQ rfl (qMove rfl) (tQ rfl (qExtract rfl rfl) (tQ rfl (qExtract rfl rfl) (tQ rfl (qAssign rfl) (tQ rfl (qAssign rfl) (tEnd (xThen (cSeq (cReg (tQ rfl (qMove rfl) (tQ rfl (qMove rfl) (tQ rfl (qIdxAddr Tryd.runUnderlying22 Tryd.sizeOf33 rfl rfl rfl (by omega)) (tQ rfl (qLdN Tryd.isAgg33 Tryd.sizeOf33 rfl (atN_mono (hFl.trans hs1) hN)) (tCallO rfl Tryd.call15 (first := []) (captured := []) rfl rfl (Φ := ResP (playA (gO os k))) (fun w' s' => plays_ s'.sub (hT.mono (hFl.trans hs1)) (hg1.mono hs1) hc1 hat1 (by omega)) fun v C hΦ => ?_)))))))))))))
      obtain ⟨Ab, cb, rfl, hA, rfl⟩ := hΦ
      refine tQ rfl (qMove rfl) (tQ rfl (qExtract rfl rfl) (tQ rfl (qExtract rfl rfl) (tQ rfl (qAssign rfl) (tQ rfl (qAssign rfl) (tEnd (xThen (cSeq (cReg (tQ rfl (qMove rfl) (tQ rfl (qMove rfl) (tQ rfl (qNe rfl rfl) (tQ rfl (qMove rfl) ?_))))))))))))
      refine tCase 35 rfl (fun g35 => ?_) (fun g35 => ?_)
      · refine tNo rfl rfl rfl rfl (tNo rfl rfl rfl rfl (tNo rfl rfl rfl rfl (tNo rfl rfl rfl rfl (tQ rfl (qPickT rfl rfl) (tEnd (xThen (cIfT rfl (cSeq (cReg (tQ rfl (qAssign rfl) (tEnd (xThen (cRet (xRetBlock (xRetThen (xRetThen (xRetBlock (xRetThen ?_))))))))))))))))))
        exfalso
        simp at *
      · refine tGo rfl rfl (tQ rfl (qMove rfl) (tGo rfl rfl (tQ rfl (qMove rfl) (tGo rfl rfl (tFreeze 0 rfl fun FA hSA hAA hNA => (tCallQ rfl Tryd.call16 (first := []) (captured := []) rfl rfl (fun w' s' => sameInts s'.sub (rd_of_row hAA rfl hA) (hr1.mono hSA) (by have := play_len (o := gO os k); omega) (by have := play_len (o := gO os k); omega)) (tGo rfl rfl (tQ rfl (qNot rfl) (tQ rfl (qPickF rfl rfl) (tEnd (xThen ?_)))))))))))
        refine cIf rfl (fun c40 => ?_) (fun c40 => ?_)
        · refine cSeq (cReg (tQ rfl (qAssign rfl) (tEnd (xThen (cRet (xRetBlock (xRetThen (xRetThen (xRetBlock (xRetThen ?_))))))))))
          exfalso
          simp at *
        · refine cSkip (xBlock (xThen (cReg (tQ rfl (qMove rfl) (tQ rfl (qAdd rfl rfl (w64 (by omega) (by omega))) (tQ rfl (qAssign rfl) (tEnd ?_)))))))
          refine xRound _ (FA, k + 1) ?_ (by dsimp only; omega) (le_of ⟨rfl, rfl, trivial⟩) (fun _ s => s)
          exact ⟨hFl.trans (hs1.trans hSA), hlt⟩
    · refine cExit (xExitThen (xExitThen (xExitBlock (xThen (cSeq (cReg (tQ rfl (qAssign rfl) (tEnd (xThen (cRet ?_))))))))))
      refine xRet1 _ Tryd.results3 rfl fun w' s' => ⟨rfl, s'.toExt hFl⟩

end Go.V
