/-
  Lemmas of this claim's own, part 4: contracts of the functions that the statement reaches, and the plain facts behind them.
-/
import Derived.Test.YtkebkfipjodnnaaDoorB02
set_option linter.unusedVariables false
set_option linter.unusedSimpArgs false
namespace Go.V
open Go.Proofs
set_option linter.unusedVariables false
set_option linter.unusedSimpArgs false

theorem name_ {w : World} {s : ByteArray} (hs : s.size ≤ 1000000000) :
    Calls Tryd.prog 143 [.string s].toArray w (fun e w' => e = .returned (.bool (decide (nameOk s))) ∧ Ext w w') := by
  refine enter' 50 Tryd.func143 Tryd.ntmps143 rfl rfl (cSeq (cReg (tQ rfl (qAssign rfl) (tEnd (xThen (cSeq (cSeq (cReg (tQ rfl (qMove rfl) (tBytes rfl Tryd.underlying9 Tryd.underlying41 Tryd.underlying5 rfl fun b7 c7 F7 hS7 hB7 => (tQ rfl (qLen Tryd.runUnderlying41 rfl rfl) (tQ rfl (qMove rfl) (tEnd (xThen (cBlock (cLoop (⟨fun (k : Nat) => [(0, .string s), (7, .slice (some ⟨b7, 0, none⟩) s.size c7), (8, .int .i64 s.size), (9, .int .i64 k)], fun (k : Nat) => F7, fun (k : Nat) => [], fun (k : Nat) => k ≤ s.size ∧ ∀ j, j < k → nameC (B s j) j, fun (k : Nat) => s.size - k⟩ : LI (Nat)) (loopStart _ 0 ⟨by omega, fun j hj => by omega⟩ (le_of ⟨rfl, rfl, rfl, rfl, trivial⟩) (fun _ s => s)) ?_))))))))))))))))
  rintro k ⟨hk, hok⟩
  refine cSeq (cReg (tQ rfl (qLt rfl rfl) (tEnd (xThen (cSeq ?_)))))
  refine cIf rfl (fun c10 => ?_) (fun c10 => ?_)
  · refine cSkip (xThen (cSeq (cBlock (cSeq ?_))))
    have hlt : k < s.size := by simp at c10; omega
    have hb := B_lt s k
    refine cReg (tQ rfl (qMove rfl) (tQ rfl (qIdxAddr Tryd.runUnderlying41 Tryd.sizeOf5 rfl rfl rfl (by omega)) (tQ rfl (qLd1 Tryd.isAgg5 rfl (hB7 k hlt)) (tQ rfl (qAssign rfl) (tQ rfl (qAssign rfl) (tEnd (xThen (cSeq (cReg (tQ rfl (qMove rfl) (tQ rfl (qGe rfl rfl) (tQ rfl (qMove rfl) ?_))))))))))))
    refine tCase 16 rfl (fun g16 => ?_) (fun g16 => ?_)
    · refine tGo rfl rfl (tQ rfl (qMove rfl) (tGo rfl rfl (tQ rfl (qLe rfl rfl) (tQ rfl (qPickT rfl rfl) (tQ rfl (qMove rfl) ?_)))))
      refine tCase 20 rfl (fun g20 => ?_) (fun g20 => ?_)
      · refine tNo rfl rfl rfl rfl (tNo rfl rfl rfl rfl (tNo rfl rfl rfl rfl (tNoU rfl rfl rfl (tNoU rfl rfl rfl (tNo rfl rfl rfl rfl (tQ rfl (qPickT rfl rfl) (tQ rfl (qMove rfl) (tNo rfl rfl rfl rfl (tNo rfl rfl rfl rfl (tQ rfl (qPickT rfl rfl) (tQ rfl (qAssign rfl) ?_)))))))))))
        refine tEnd (xThen (cSeq (cReg (tQ rfl (qMove rfl) (tQ rfl (qNot rfl) (tQ rfl (qMove rfl) (tNo rfl rfl rfl rfl (tNo rfl rfl rfl rfl (tNo rfl rfl rfl rfl (tNoU rfl rfl rfl (tNoU rfl rfl rfl (tNo rfl rfl rfl rfl (tNo rfl rfl rfl rfl (tNoU rfl rfl rfl ?_))))))))))))))
        refine tNoU rfl rfl rfl (tNo rfl rfl rfl rfl (tQ rfl (qPickF rfl rfl) (tEnd (xThen (cIfF rfl (cSkip (xBlock (xThen (cReg (tQ rfl (qAdd rfl rfl (w64 (by omega) (by omega))) (tQ rfl (qMove rfl) (tEnd ?_))))))))))))
        refine xRound _ (k + 1) ?_ (by dsimp only; omega) (le_of ⟨rfl, rfl, rfl, rfl, trivial⟩) (fun _ s => s)
        refine ⟨by omega, fun j hj => ?_⟩
        rcases Nat.lt_or_ge j k with h | h
        · exact hok j h
        · obtain rfl : j = k := by omega
          unfold nameC
          simp only [Go.V.dsl, reduceCtorEq] at *
          omega
      · refine tGo rfl rfl (tQ rfl (qMove rfl) (tGo rfl rfl (tQ rfl (qGe rfl rfl) (tGo rfl rfl (tQ rfl (qMove rfl) ?_)))))
        refine tCase 23 rfl (fun g23 => ?_) (fun g23 => ?_)
        · refine tGo rfl rfl (tQ rfl (qMove rfl) (tGo rfl rfl (tQ rfl (qLe rfl rfl) (tGo rfl rfl (tQ rfl (qPickT rfl rfl) (tQ rfl (qPickF rfl rfl) (tQ rfl (qMove rfl) ?_)))))))
          refine tCase 28 rfl (fun g28 => ?_) (fun g28 => ?_)
          · refine tNo rfl rfl rfl rfl (tNo rfl rfl rfl rfl (tQ rfl (qPickT rfl rfl) (tQ rfl (qAssign rfl) (tEnd (xThen (cSeq (cReg (tQ rfl (qMove rfl) (tQ rfl (qNot rfl) (tQ rfl (qMove rfl) (tNo rfl rfl rfl rfl (tNo rfl rfl rfl rfl (tNo rfl rfl rfl rfl (tNoU rfl rfl rfl ?_))))))))))))))
            refine tNoU rfl rfl rfl (tNo rfl rfl rfl rfl (tNo rfl rfl rfl rfl (tNoU rfl rfl rfl (tNoU rfl rfl rfl (tNo rfl rfl rfl rfl (tQ rfl (qPickF rfl rfl) (tEnd (xThen (cIfF rfl (cSkip (xBlock (xThen (cReg (tQ rfl (qAdd rfl rfl (w64 (by omega) (by omega))) (tQ rfl (qMove rfl) ?_)))))))))))))))
            refine tEnd ?_
            refine xRound _ (k + 1) ?_ (by dsimp only; omega) (le_of ⟨rfl, rfl, rfl, rfl, trivial⟩) (fun _ s => s)
            refine ⟨by omega, fun j hj => ?_⟩
            rcases Nat.lt_or_ge j k with h | h
            · exact hok j h
            · obtain rfl : j = k := by omega
              unfold nameC
              simp only [Go.V.dsl, reduceCtorEq] at *
              omega
          · refine tGo rfl rfl (tQ rfl (qMove rfl) (tGo rfl rfl (tQ rfl (qEq rfl rfl) (tQ rfl (qPickF rfl rfl) (tQ rfl (qAssign rfl) (tEnd (xThen (cSeq (cReg (tQ rfl (qMove rfl) (tQ rfl (qNot rfl) (tQ rfl (qMove rfl) ?_))))))))))))
            refine tCase 34 rfl (fun g34 => ?_) (fun g34 => ?_)
            · refine tGo rfl rfl (tQ rfl (qMove rfl) (tGo rfl rfl (tQ rfl (qEq rfl rfl) (tGo rfl rfl (tQ rfl (qMove rfl) ?_)))))
              refine tCase 37 rfl (fun g37 => ?_) (fun g37 => ?_)
              · refine tNo rfl rfl rfl rfl (tNo rfl rfl rfl rfl (tGo rfl rfl (tQ rfl (qPickT rfl rfl) (tGo rfl rfl (tQ rfl (qMove rfl) (tNo rfl rfl rfl rfl (tNo rfl rfl rfl rfl (tGo rfl rfl (tQ rfl (qPickT rfl rfl) (tQ rfl (qPickT rfl rfl) (tEnd (xThen ?_))))))))))))
                refine cIfT rfl (cSeq (cReg (tQ rfl (qAssign rfl) (tEnd (xThen (cRet (xRetBlock (xRetThen (xRetThen (xRetBlock (xRetThen ?_)))))))))))
                refine xRet1 _ Tryd.results143 rfl fun w' s' => ⟨congrArg Value.bool (Eq.symm (decide_eq_false ?_)), s'.toExt (hS7)⟩
                rintro ⟨_, h⟩
                have := h k hlt
                unfold nameC at this
                simp only [Go.V.dsl, reduceCtorEq] at *
                omega
              · refine tGo rfl rfl (tQ rfl (qMove rfl) (tGo rfl rfl (tQ rfl (qLt rfl rfl) (tGo rfl rfl (tQ rfl (qPickF rfl rfl) (tGo rfl rfl (tQ rfl (qMove rfl) ?_)))))))
                refine tCase 41 rfl (fun g41 => ?_) (fun g41 => ?_)
                · refine tNo rfl rfl rfl rfl (tNo rfl rfl rfl rfl (tGo rfl rfl (tQ rfl (qPickT rfl rfl) (tQ rfl (qPickT rfl rfl) (tEnd (xThen (cIfT rfl (cSeq (cReg (tQ rfl (qAssign rfl) (tEnd (xThen (cRet (xRetBlock (xRetThen (xRetThen (xRetBlock (xRetThen ?_))))))))))))))))))
                  refine xRet1 _ Tryd.results143 rfl fun w' s' => ⟨congrArg Value.bool (Eq.symm (decide_eq_false ?_)), s'.toExt (hS7)⟩
                  rintro ⟨_, h⟩
                  have := h k hlt
                  unfold nameC at this
                  simp only [Go.V.dsl, reduceCtorEq] at *
                  omega
                · refine tGo rfl rfl (tQ rfl (qMove rfl) (tGo rfl rfl (tQ rfl (qGt rfl rfl) (tGo rfl rfl (tQ rfl (qPickF rfl rfl) (tQ rfl (qPickT rfl rfl) (tEnd (xThen ?_))))))))
                  refine cIf rfl (fun c45 => ?_) (fun c45 => ?_)
                  · refine cSeq (cReg (tQ rfl (qAssign rfl) (tEnd (xThen (cRet (xRetBlock (xRetThen (xRetThen (xRetBlock (xRetThen ?_))))))))))
                    refine xRet1 _ Tryd.results143 rfl fun w' s' => ⟨congrArg Value.bool (Eq.symm (decide_eq_false ?_)), s'.toExt (hS7)⟩
                    rintro ⟨_, h⟩
                    have := h k hlt
                    unfold nameC at this
                    simp only [Go.V.dsl, reduceCtorEq] at *
                    omega
                  · refine cSkip (xBlock (xThen (cReg (tQ rfl (qAdd rfl rfl (w64 (by omega) (by omega))) (tQ rfl (qMove rfl) (tEnd ?_))))))
                    refine xRound _ (k + 1) ?_ (by dsimp only; omega) (le_of ⟨rfl, rfl, rfl, rfl, trivial⟩) (fun _ s => s)
                    refine ⟨by omega, fun j hj => ?_⟩
                    rcases Nat.lt_or_ge j k with h | h
                    · exact hok j h
                    · obtain rfl : j = k := by omega
                      unfold nameC
                      simp only [Go.V.dsl, reduceCtorEq] at *
                      omega
            · refine tNo rfl rfl rfl rfl (tNo rfl rfl rfl rfl (tNo rfl rfl rfl rfl (tNoU rfl rfl rfl (tNoU rfl rfl rfl (tNo rfl rfl rfl rfl (tNo rfl rfl rfl rfl (tNoU rfl rfl rfl (tNoU rfl rfl rfl (tNo rfl rfl rfl rfl (tQ rfl (qPickF rfl rfl) (tEnd (xThen ?_))))))))))))
              refine cIfF rfl (cSkip (xBlock (xThen (cReg (tQ rfl (qAdd rfl rfl (w64 (by omega) (by omega))) (tQ rfl (qMove rfl) (tEnd ?_)))))))
              refine xRound _ (k + 1) ?_ (by dsimp only; omega) (le_of ⟨rfl, rfl, rfl, rfl, trivial⟩) (fun _ s => s)
              refine ⟨by omega, fun j hj => ?_⟩
              rcases Nat.lt_or_ge j k with h | h
              · exact hok j h
              · obtain rfl : j = k := by omega
                unfold nameC
                simp only [Go.V.dsl, reduceCtorEq] at *
                omega
        · refine tNo rfl rfl rfl rfl (tNo rfl rfl rfl rfl (tGo rfl rfl (tQ rfl (qPickF rfl rfl) (tQ rfl (qPickF rfl rfl) (tQ rfl (qMove rfl) (tGo rfl rfl (tQ rfl (qMove rfl) (tGo rfl rfl (tQ rfl (qEq rfl rfl) (tQ rfl (qPickF rfl rfl) (tQ rfl (qAssign rfl) ?_)))))))))))
          refine tEnd (xThen (cSeq (cReg (tQ rfl (qMove rfl) (tQ rfl (qNot rfl) (tQ rfl (qMove rfl) ?_))))))
          refine tCase 34 rfl (fun g34 => ?_) (fun g34 => ?_)
          · refine tGo rfl rfl (tQ rfl (qMove rfl) (tGo rfl rfl (tQ rfl (qEq rfl rfl) (tGo rfl rfl (tQ rfl (qMove rfl) ?_)))))
            refine tCase 37 rfl (fun g37 => ?_) (fun g37 => ?_)
            · refine tNo rfl rfl rfl rfl (tNo rfl rfl rfl rfl (tGo rfl rfl (tQ rfl (qPickT rfl rfl) (tGo rfl rfl (tQ rfl (qMove rfl) (tNo rfl rfl rfl rfl (tNo rfl rfl rfl rfl (tGo rfl rfl (tQ rfl (qPickT rfl rfl) (tQ rfl (qPickT rfl rfl) (tEnd (xThen ?_))))))))))))
              refine cIfT rfl (cSeq (cReg (tQ rfl (qAssign rfl) (tEnd (xThen (cRet (xRetBlock (xRetThen (xRetThen (xRetBlock (xRetThen ?_)))))))))))
              refine xRet1 _ Tryd.results143 rfl fun w' s' => ⟨congrArg Value.bool (Eq.symm (decide_eq_false ?_)), s'.toExt (hS7)⟩
              rintro ⟨_, h⟩
              have := h k hlt
              unfold nameC at this
              simp only [Go.V.dsl, reduceCtorEq] at *
              omega
            · refine tGo rfl rfl (tQ rfl (qMove rfl) (tGo rfl rfl (tQ rfl (qLt rfl rfl) (tGo rfl rfl (tQ rfl (qPickF rfl rfl) (tGo rfl rfl (tQ rfl (qMove rfl) ?_)))))))
              refine tCase 41 rfl (fun g41 => ?_) (fun g41 => ?_)
              · refine tNo rfl rfl rfl rfl (tNo rfl rfl rfl rfl (tGo rfl rfl (tQ rfl (qPickT rfl rfl) (tQ rfl (qPickT rfl rfl) (tEnd (xThen (cIfT rfl (cSeq (cReg (tQ rfl (qAssign rfl) (tEnd (xThen (cRet (xRetBlock (xRetThen (xRetThen (xRetBlock (xRetThen ?_))))))))))))))))))
                refine xRet1 _ Tryd.results143 rfl fun w' s' => ⟨congrArg Value.bool (Eq.symm (decide_eq_false ?_)), s'.toExt (hS7)⟩
                rintro ⟨_, h⟩
                have := h k hlt
                unfold nameC at this
                simp only [Go.V.dsl, reduceCtorEq] at *
                omega
              · refine tGo rfl rfl (tQ rfl (qMove rfl) (tGo rfl rfl (tQ rfl (qGt rfl rfl) (tGo rfl rfl (tQ rfl (qPickF rfl rfl) (tQ rfl (qPickT rfl rfl) (tEnd (xThen ?_))))))))
                refine cIf rfl (fun c45 => ?_) (fun c45 => ?_)
                · refine cSeq (cReg (tQ rfl (qAssign rfl) (tEnd (xThen (cRet (xRetBlock (xRetThen (xRetThen (xRetBlock (xRetThen ?_))))))))))
                  refine xRet1 _ Tryd.results143 rfl fun w' s' => ⟨congrArg Value.bool (Eq.symm (decide_eq_false ?_)), s'.toExt (hS7)⟩
                  rintro ⟨_, h⟩
                  have := h k hlt
                  unfold nameC at this
                  simp only [Go.V.dsl, reduceCtorEq] at *
                  omega
                · refine cSkip (xBlock (xThen (cReg (tQ rfl (qAdd rfl rfl (w64 (by omega) (by omega))) (tQ rfl (qMove rfl) (tEnd ?_))))))
                  refine xRound _ (k + 1) ?_ (by dsimp only; omega) (le_of ⟨rfl, rfl, rfl, rfl, trivial⟩) (fun _ s => s)
                  refine ⟨by omega, fun j hj => ?_⟩
                  rcases Nat.lt_or_ge j k with h | h
                  · exact hok j h
                  · obtain rfl : j = k := by omega
                    unfold nameC
                    simp only [Go.V.dsl, reduceCtorEq] at *
                    omega
          · refine tNo rfl rfl rfl rfl (tNo rfl rfl rfl rfl (tNo rfl rfl rfl rfl (tNoU rfl rfl rfl (tNoU rfl rfl rfl (tNo rfl rfl rfl rfl (tNo rfl rfl rfl rfl (tNoU rfl rfl rfl (tNoU rfl rfl rfl (tNo rfl rfl rfl rfl (tQ rfl (qPickF rfl rfl) (tEnd (xThen ?_))))))))))))
            refine cIfF rfl (cSkip (xBlock (xThen (cReg (tQ rfl (qAdd rfl rfl (w64 (by omega) (by omega))) (tQ rfl (qMove rfl) (tEnd ?_)))))))
            refine xRound _ (k + 1) ?_ (by dsimp only; omega) (le_of ⟨rfl, rfl, rfl, rfl, trivial⟩) (fun _ s => s)
            refine ⟨by omega, fun j hj => ?_⟩
            rcases Nat.lt_or_ge j k with h | h
            · exact hok j h
            · obtain rfl : j = k := by omega
              unfold nameC
              simp only [Go.V.dsl, reduceCtorEq] at *
              omega
    · refine tNo rfl rfl rfl rfl (tNo rfl rfl rfl rfl (tQ rfl (qPickF rfl rfl) (tQ rfl (qMove rfl) (tGo rfl rfl (tQ rfl (qMove rfl) (tGo rfl rfl (tQ rfl (qGe rfl rfl) (tGo rfl rfl (tQ rfl (qMove rfl) ?_)))))))))
      refine tCase 23 rfl (fun g23 => ?_) (fun g23 => ?_)
      · refine tGo rfl rfl (tQ rfl (qMove rfl) (tGo rfl rfl (tQ rfl (qLe rfl rfl) (tGo rfl rfl (tQ rfl (qPickT rfl rfl) (tQ rfl (qPickF rfl rfl) (tQ rfl (qMove rfl) ?_)))))))
        refine tCase 28 rfl (fun g28 => ?_) (fun g28 => ?_)
        · refine tNo rfl rfl rfl rfl (tNo rfl rfl rfl rfl (tQ rfl (qPickT rfl rfl) (tQ rfl (qAssign rfl) (tEnd (xThen (cSeq (cReg (tQ rfl (qMove rfl) (tQ rfl (qNot rfl) (tQ rfl (qMove rfl) (tNo rfl rfl rfl rfl (tNo rfl rfl rfl rfl (tNo rfl rfl rfl rfl (tNoU rfl rfl rfl ?_))))))))))))))
          refine tNoU rfl rfl rfl (tNo rfl rfl rfl rfl (tNo rfl rfl rfl rfl (tNoU rfl rfl rfl (tNoU rfl rfl rfl (tNo rfl rfl rfl rfl (tQ rfl (qPickF rfl rfl) (tEnd (xThen (cIfF rfl (cSkip (xBlock (xThen (cReg (tQ rfl (qAdd rfl rfl (w64 (by omega) (by omega))) (tQ rfl (qMove rfl) ?_)))))))))))))))
          refine tEnd ?_
          refine xRound _ (k + 1) ?_ (by dsimp only; omega) (le_of ⟨rfl, rfl, rfl, rfl, trivial⟩) (fun _ s => s)
          refine ⟨by omega, fun j hj => ?_⟩
          rcases Nat.lt_or_ge j k with h | h
          · exact hok j h
          · obtain rfl : j = k := by omega
            unfold nameC
            simp only [Go.V.dsl, reduceCtorEq] at *
            omega
        · refine tGo rfl rfl (tQ rfl (qMove rfl) (tGo rfl rfl (tQ rfl (qEq rfl rfl) (tQ rfl (qPickF rfl rfl) (tQ rfl (qAssign rfl) (tEnd (xThen (cSeq (cReg (tQ rfl (qMove rfl) (tQ rfl (qNot rfl) (tQ rfl (qMove rfl) ?_))))))))))))
          refine tCase 34 rfl (fun g34 => ?_) (fun g34 => ?_)
          · refine tGo rfl rfl (tQ rfl (qMove rfl) (tGo rfl rfl (tQ rfl (qEq rfl rfl) (tGo rfl rfl (tQ rfl (qMove rfl) ?_)))))
            refine tCase 37 rfl (fun g37 => ?_) (fun g37 => ?_)
            · refine tNo rfl rfl rfl rfl (tNo rfl rfl rfl rfl (tGo rfl rfl (tQ rfl (qPickT rfl rfl) (tGo rfl rfl (tQ rfl (qMove rfl) (tNo rfl rfl rfl rfl (tNo rfl rfl rfl rfl (tGo rfl rfl (tQ rfl (qPickT rfl rfl) (tQ rfl (qPickT rfl rfl) (tEnd (xThen ?_))))))))))))
              refine cIfT rfl (cSeq (cReg (tQ rfl (qAssign rfl) (tEnd (xThen (cRet (xRetBlock (xRetThen (xRetThen (xRetBlock (xRetThen ?_)))))))))))
              refine xRet1 _ Tryd.results143 rfl fun w' s' => ⟨congrArg Value.bool (Eq.symm (decide_eq_false ?_)), s'.toExt (hS7)⟩
              rintro ⟨_, h⟩
              have := h k hlt
              unfold nameC at this
              simp only [Go.V.dsl, reduceCtorEq] at *
              omega
            · refine tGo rfl rfl (tQ rfl (qMove rfl) (tGo rfl rfl (tQ rfl (qLt rfl rfl) (tGo rfl rfl (tQ rfl (qPickF rfl rfl) (tGo rfl rfl (tQ rfl (qMove rfl) ?_)))))))
              refine tCase 41 rfl (fun g41 => ?_) (fun g41 => ?_)
              · refine tNo rfl rfl rfl rfl (tNo rfl rfl rfl rfl (tGo rfl rfl (tQ rfl (qPickT rfl rfl) (tQ rfl (qPickT rfl rfl) (tEnd (xThen (cIfT rfl (cSeq (cReg (tQ rfl (qAssign rfl) (tEnd (xThen (cRet (xRetBlock (xRetThen (xRetThen (xRetBlock (xRetThen ?_))))))))))))))))))
                refine xRet1 _ Tryd.results143 rfl fun w' s' => ⟨congrArg Value.bool (Eq.symm (decide_eq_false ?_)), s'.toExt (hS7)⟩
                rintro ⟨_, h⟩
                have := h k hlt
                unfold nameC at this
                simp only [Go.V.dsl, reduceCtorEq] at *
                omega
              · refine tGo rfl rfl (tQ rfl (qMove rfl) (tGo rfl rfl (tQ rfl (qGt rfl rfl) (tGo rfl rfl (tQ rfl (qPickF rfl rfl) (tQ rfl (qPickT rfl rfl) (tEnd (xThen ?_))))))))
                refine cIf rfl (fun c45 => ?_) (fun c45 => ?_)
                · refine cSeq (cReg (tQ rfl (qAssign rfl) (tEnd (xThen (cRet (xRetBlock (xRetThen (xRetThen (xRetBlock (xRetThen ?_))))))))))
                  refine xRet1 _ Tryd.results143 rfl fun w' s' => ⟨congrArg Value.bool (Eq.symm (decide_eq_false ?_)), s'.toExt (hS7)⟩
                  rintro ⟨_, h⟩
                  have := h k hlt
                  unfold nameC at this
                  simp only [Go.V.dsl, reduceCtorEq] at *
                  omega
                · refine cSkip (xBlock (xThen (cReg (tQ rfl (qAdd rfl rfl (w64 (by omega) (by omega))) (tQ rfl (qMove rfl) (tEnd ?_))))))
                  refine xRound _ (k + 1) ?_ (by dsimp only; omega) (le_of ⟨rfl, rfl, rfl, rfl, trivial⟩) (fun _ s => s)
                  refine ⟨by omega, fun j hj => ?_⟩
                  rcases Nat.lt_or_ge j k with h | h
                  · exact hok j h
                  · obtain rfl : j = k := by omega
                    unfold nameC
                    simp only [Go.V.dsl, reduceCtorEq] at *
                    omega
          · refine tNo rfl rfl rfl rfl (tNo rfl rfl rfl rfl (tNo rfl rfl rfl rfl (tNoU rfl rfl rfl (tNoU rfl rfl rfl (tNo rfl rfl rfl rfl (tNo rfl rfl rfl rfl (tNoU rfl rfl rfl (tNoU rfl rfl rfl (tNo rfl rfl rfl rfl (tQ rfl (qPickF rfl rfl) (tEnd (xThen ?_))))))))))))
            refine cIfF rfl (cSkip (xBlock (xThen (cReg (tQ rfl (qAdd rfl rfl (w64 (by omega) (by omega))) (tQ rfl (qMove rfl) (tEnd ?_)))))))
            refine xRound _ (k + 1) ?_ (by dsimp only; omega) (le_of ⟨rfl, rfl, rfl, rfl, trivial⟩) (fun _ s => s)
            refine ⟨by omega, fun j hj => ?_⟩
            rcases Nat.lt_or_ge j k with h | h
            · exact hok j h
            · obtain rfl : j = k := by omega
              unfold nameC
              simp only [Go.V.dsl, reduceCtorEq] at *
              omega
      · refine tNo rfl rfl rfl rfl (tNo rfl rfl rfl rfl (tGo rfl rfl (tQ rfl (qPickF rfl rfl) (tQ rfl (qPickF rfl rfl) (tQ rfl (qMove rfl) (tGo rfl rfl (tQ rfl (qMove rfl) (tGo rfl rfl (tQ rfl (qEq rfl rfl) (tQ rfl (qPickF rfl rfl) (tQ rfl (qAssign rfl) ?_)))))))))))
        refine tEnd (xThen (cSeq (cReg (tQ rfl (qMove rfl) (tQ rfl (qNot rfl) (tQ rfl (qMove rfl) ?_))))))
        refine tCase 34 rfl (fun g34 => ?_) (fun g34 => ?_)
        · refine tGo rfl rfl (tQ rfl (qMove rfl) (tGo rfl rfl (tQ rfl (qEq rfl rfl) (tGo rfl rfl (tQ rfl (qMove rfl) ?_)))))
          refine tCase 37 rfl (fun g37 => ?_) (fun g37 => ?_)
          · refine tNo rfl rfl rfl rfl (tNo rfl rfl rfl rfl (tGo rfl rfl (tQ rfl (qPickT rfl rfl) (tGo rfl rfl (tQ rfl (qMove rfl) (tNo rfl rfl rfl rfl (tNo rfl rfl rfl rfl (tGo rfl rfl (tQ rfl (qPickT rfl rfl) (tQ rfl (qPickT rfl rfl) (tEnd (xThen ?_))))))))))))
            refine cIfT rfl (cSeq (cReg (tQ rfl (qAssign rfl) (tEnd (xThen (cRet (xRetBlock (xRetThen (xRetThen (xRetBlock (xRetThen ?_)))))))))))
            refine xRet1 _ Tryd.results143 rfl fun w' s' => ⟨congrArg Value.bool (Eq.symm (decide_eq_false ?_)), s'.toExt (hS7)⟩
            rintro ⟨_, h⟩
            have := h k hlt
            unfold nameC at this
            simp only [Go.V.dsl, reduceCtorEq] at *
            omega
          · refine tGo rfl rfl (tQ rfl (qMove rfl) (tGo rfl rfl (tQ rfl (qLt rfl rfl) (tGo rfl rfl (tQ rfl (qPickF rfl rfl) (tGo rfl rfl (tQ rfl (qMove rfl) ?_)))))))
            refine tCase 41 rfl (fun g41 => ?_) (fun g41 => ?_)
            · refine tNo rfl rfl rfl rfl (tNo rfl rfl rfl rfl (tGo rfl rfl (tQ rfl (qPickT rfl rfl) (tQ rfl (qPickT rfl rfl) (tEnd (xThen (cIfT rfl (cSeq (cReg (tQ rfl (qAssign rfl) (tEnd (xThen (cRet (xRetBlock (xRetThen (xRetThen (xRetBlock (xRetThen ?_))))))))))))))))))
              refine xRet1 _ Tryd.results143 rfl fun w' s' => ⟨congrArg Value.bool (Eq.symm (decide_eq_false ?_)), s'.toExt (hS7)⟩
              rintro ⟨_, h⟩
              have := h k hlt
              unfold nameC at this
              simp only [Go.V.dsl, reduceCtorEq] at *
              omega
            · refine tGo rfl rfl (tQ rfl (qMove rfl) (tGo rfl rfl (tQ rfl (qGt rfl rfl) (tGo rfl rfl (tQ rfl (qPickF rfl rfl) (tQ rfl (qPickT rfl rfl) (tEnd (xThen ?_))))))))
              refine cIf rfl (fun c45 => ?_) (fun c45 => ?_)
              · refine cSeq (cReg (tQ rfl (qAssign rfl) (tEnd (xThen (cRet (xRetBlock (xRetThen (xRetThen (xRetBlock (xRetThen ?_))))))))))
                refine xRet1 _ Tryd.results143 rfl fun w' s' => ⟨congrArg Value.bool (Eq.symm (decide_eq_false ?_)), s'.toExt (hS7)⟩
                rintro ⟨_, h⟩
                have := h k hlt
                unfold nameC at this
                simp only [Go.V.dsl, reduceCtorEq] at *
                omega
              · refine cSkip (xBlock (xThen (cReg (tQ rfl (qAdd rfl rfl (w64 (by omega) (by omega))) (tQ rfl (qMove rfl) (tEnd ?_))))))
                refine xRound _ (k + 1) ?_ (by dsimp only; omega) (le_of ⟨rfl, rfl, rfl, rfl, trivial⟩) (fun _ s => s)
                refine ⟨by omega, fun j hj => ?_⟩
                rcases Nat.lt_or_ge j k with h | h
                · exact hok j h
                · obtain rfl : j = k := by omega
                  unfold nameC
                  simp only [Go.V.dsl, reduceCtorEq] at *
                  omega
        · refine tNo rfl rfl rfl rfl (tNo rfl rfl rfl rfl (tNo rfl rfl rfl rfl (tNoU rfl rfl rfl (tNoU rfl rfl rfl (tNo rfl rfl rfl rfl (tNo rfl rfl rfl rfl (tNoU rfl rfl rfl (tNoU rfl rfl rfl (tNo rfl rfl rfl rfl (tQ rfl (qPickF rfl rfl) (tEnd (xThen ?_))))))))))))
          refine cIfF rfl (cSkip (xBlock (xThen (cReg (tQ rfl (qAdd rfl rfl (w64 (by omega) (by omega))) (tQ rfl (qMove rfl) (tEnd ?_)))))))
          refine xRound _ (k + 1) ?_ (by dsimp only; omega) (le_of ⟨rfl, rfl, rfl, rfl, trivial⟩) (fun _ s => s)
          refine ⟨by omega, fun j hj => ?_⟩
          rcases Nat.lt_or_ge j k with h | h
          · exact hok j h
          · obtain rfl : j = k := by omega
            unfold nameC
            simp only [Go.V.dsl, reduceCtorEq] at *
            omega
  · refine cExit (xExitThen (xExitThen (xExitBlock (xThen (cSeq (cReg (tQ rfl (qMove rfl) (tQ rfl (qLenStr Tryd.runUnderlying9 rfl rfl) (tQ rfl (qLe rfl rfl) (tQ rfl (qAssign rfl) (tEnd (xThen (cRet ?_)))))))))))))
    refine xRet1 _ Tryd.results143 rfl fun w' s' => ⟨congrArg Value.bool ?_, s'.toExt hS7⟩
    have hk' : k = s.size := by simp at c10; omega
    subst hk'
    rw [Bool.eq_iff_iff]
    simp only [decide_eq_true_eq]
    exact ⟨fun h => ⟨by omega, hok⟩, fun h => by have := h.1; omega⟩

theorem isName_ {w : World} {s : ByteArray} (hs : s.size ≤ 1000000000) :
    Calls Tryd.prog 106 [.string s].toArray w (fun e w' => e = .returned (.bool (decide (nameOk s))) ∧ Ext w w') := by
  refine enter' 50 Tryd.func106 Tryd.ntmps106 rfl rfl (cSeq (cReg (tQ rfl (qAssign rfl) (tEnd (xThen (cSeq (cSeq (cReg (tQ rfl (qMove rfl) (tQ rfl (qLenStr Tryd.runUnderlying9 rfl rfl) (tQ rfl (qGt rfl rfl) (tEnd (xThen ?_)))))))))))))
  refine cIf rfl (fun c8 => ?_) (fun c8 => ?_)
  · refine cSeq (cReg (tQ rfl (qAssign rfl) (tEnd (xThen (cRet (xRetThen ?_))))))
    refine xRet1 _ Tryd.results106 rfl fun w' s' => ⟨congrArg Value.bool (Eq.symm (decide_eq_false ?_)), s'.toExt (Sub.refl _)⟩
    rintro ⟨h, _⟩
    simp at *
    omega
  · refine cSkip (xThen (cSeq (cSeq (cReg (tQ rfl (qAssign rfl) (tEnd (xThen (cBlock (cLoop (⟨fun (k : Nat) => [(0, .string s), (3, .int .i64 k)], fun (k : Nat) => hp w, fun (k : Nat) => [], fun (k : Nat) => k ≤ s.size ∧ ∀ j, j < k → nameC (B s j) j, fun (k : Nat) => s.size - k⟩ : LI (Nat)) (loopStart _ 0 ⟨by omega, fun j hj => by omega⟩ (le_of ⟨rfl, rfl, trivial⟩) (fun _ s => s)) ?_)))))))))
    rintro k ⟨hk, hok⟩
    refine cSeq (cSeq (cReg (tQ rfl (qMove rfl) (tQ rfl (qMove rfl) (tQ rfl (qLenStr Tryd.runUnderlying9 rfl rfl) (tQ rfl (qLt rfl rfl) (tEnd (xThen ?_))))))))
    refine cIf rfl (fun c12 => ?_) (fun c12 => ?_)
    · refine cSkip (xThen (cSeq (cBlock (cSeq ?_))))
      have hlt : k < s.size := by simp at c12; omega
      have hb := B_lt s k
      refine cReg (tQ rfl (qMove rfl) (tQ rfl (qMove rfl) (tQ rfl (qIdxStrB Tryd.runUnderlying9 rfl rfl (j := k) (by omega) (by omega)) (tQ rfl (qAssign rfl) (tEnd (xThen (cSeq (cReg (tQ rfl (qMove rfl) (tQ rfl (qGe rfl rfl) (tQ rfl (qMove rfl) ?_)))))))))))
      refine tCase 20 rfl (fun g20 => ?_) (fun g20 => ?_)
      · refine tGo rfl rfl (tQ rfl (qMove rfl) (tGo rfl rfl (tQ rfl (qLe rfl rfl) (tQ rfl (qPickT rfl rfl) (tQ rfl (qMove rfl) ?_)))))
        refine tCase 24 rfl (fun g24 => ?_) (fun g24 => ?_)
        · refine tNo rfl rfl rfl rfl (tNo rfl rfl rfl rfl (tNo rfl rfl rfl rfl (tNoU rfl rfl rfl (tNoU rfl rfl rfl (tNo rfl rfl rfl rfl (tQ rfl (qPickT rfl rfl) (tQ rfl (qMove rfl) (tNo rfl rfl rfl rfl (tNo rfl rfl rfl rfl (tQ rfl (qPickT rfl rfl) (tQ rfl (qMove rfl) ?_)))))))))))
          refine tNo rfl rfl rfl rfl (tNo rfl rfl rfl rfl (tNo rfl rfl rfl rfl (tNoU rfl rfl rfl (tNoU rfl rfl rfl (tNo rfl rfl rfl rfl (tNo rfl rfl rfl rfl (tNoU rfl rfl rfl (tNoU rfl rfl rfl (tNo rfl rfl rfl rfl (tQ rfl (qPickT rfl rfl) (tQ rfl (qAssign rfl) ?_)))))))))))
          refine tEnd (xThen (cSeq (cReg (tQ rfl (qMove rfl) (tQ rfl (qNot rfl) (tEnd (xThen (cIfF rfl (cSkip (xBlock (xThen (cReg (tQ rfl (qMove rfl) (tQ rfl (qAdd rfl rfl (w64 (by omega) (by omega))) (tQ rfl (qAssign rfl) (tEnd ?_))))))))))))))))
          refine xRound _ (k + 1) ?_ (by dsimp only; omega) (le_of ⟨rfl, rfl, trivial⟩) (fun _ s => s)
          refine ⟨by omega, fun j hj => ?_⟩
          rcases Nat.lt_or_ge j k with h | h
          · exact hok j h
          · obtain rfl : j = k := by omega
            unfold nameC
            simp only [Go.V.dsl, reduceCtorEq] at *
            omega
        · refine tGo rfl rfl (tQ rfl (qMove rfl) (tGo rfl rfl (tQ rfl (qGe rfl rfl) (tGo rfl rfl (tQ rfl (qMove rfl) ?_)))))
          refine tCase 27 rfl (fun g27 => ?_) (fun g27 => ?_)
          · refine tGo rfl rfl (tQ rfl (qMove rfl) (tGo rfl rfl (tQ rfl (qLe rfl rfl) (tGo rfl rfl (tQ rfl (qPickT rfl rfl) (tQ rfl (qPickF rfl rfl) (tQ rfl (qMove rfl) ?_)))))))
            refine tCase 32 rfl (fun g32 => ?_) (fun g32 => ?_)
            · refine tNo rfl rfl rfl rfl (tNo rfl rfl rfl rfl (tQ rfl (qPickT rfl rfl) (tQ rfl (qMove rfl) (tNo rfl rfl rfl rfl (tNo rfl rfl rfl rfl (tNo rfl rfl rfl rfl (tNoU rfl rfl rfl (tNoU rfl rfl rfl (tNo rfl rfl rfl rfl (tNo rfl rfl rfl rfl (tNoU rfl rfl rfl ?_)))))))))))
              refine tNoU rfl rfl rfl (tNo rfl rfl rfl rfl (tQ rfl (qPickT rfl rfl) (tQ rfl (qAssign rfl) (tEnd (xThen (cSeq (cReg (tQ rfl (qMove rfl) (tQ rfl (qNot rfl) (tEnd (xThen (cIfF rfl (cSkip (xBlock (xThen (cReg (tQ rfl (qMove rfl) (tQ rfl (qAdd rfl rfl (w64 (by omega) (by omega))) ?_))))))))))))))))))
              refine tQ rfl (qAssign rfl) (tEnd ?_)
              refine xRound _ (k + 1) ?_ (by dsimp only; omega) (le_of ⟨rfl, rfl, trivial⟩) (fun _ s => s)
              refine ⟨by omega, fun j hj => ?_⟩
              rcases Nat.lt_or_ge j k with h | h
              · exact hok j h
              · obtain rfl : j = k := by omega
                unfold nameC
                simp only [Go.V.dsl, reduceCtorEq] at *
                omega
            · refine tGo rfl rfl (tQ rfl (qMove rfl) (tGo rfl rfl (tQ rfl (qEq rfl rfl) (tQ rfl (qPickF rfl rfl) (tQ rfl (qMove rfl) ?_)))))
              refine tCase 36 rfl (fun g36 => ?_) (fun g36 => ?_)
              · refine tNo rfl rfl rfl rfl (tNo rfl rfl rfl rfl (tNo rfl rfl rfl rfl (tNoU rfl rfl rfl (tNoU rfl rfl rfl (tNo rfl rfl rfl rfl (tNo rfl rfl rfl rfl (tNoU rfl rfl rfl (tNoU rfl rfl rfl (tNo rfl rfl rfl rfl (tQ rfl (qPickT rfl rfl) (tQ rfl (qAssign rfl) ?_)))))))))))
                refine tEnd (xThen (cSeq (cReg (tQ rfl (qMove rfl) (tQ rfl (qNot rfl) (tEnd (xThen (cIfF rfl (cSkip (xBlock (xThen (cReg (tQ rfl (qMove rfl) (tQ rfl (qAdd rfl rfl (w64 (by omega) (by omega))) (tQ rfl (qAssign rfl) (tEnd ?_))))))))))))))))
                refine xRound _ (k + 1) ?_ (by dsimp only; omega) (le_of ⟨rfl, rfl, trivial⟩) (fun _ s => s)
                refine ⟨by omega, fun j hj => ?_⟩
                rcases Nat.lt_or_ge j k with h | h
                · exact hok j h
                · obtain rfl : j = k := by omega
                  unfold nameC
                  simp only [Go.V.dsl, reduceCtorEq] at *
                  omega
              · refine tGo rfl rfl (tQ rfl (qMove rfl) (tGo rfl rfl (tQ rfl (qGt rfl rfl) (tGo rfl rfl (tQ rfl (qMove rfl) ?_)))))
                refine tCase 39 rfl (fun g39 => ?_) (fun g39 => ?_)
                · refine tGo rfl rfl (tQ rfl (qMove rfl) (tGo rfl rfl (tQ rfl (qGe rfl rfl) (tGo rfl rfl (tQ rfl (qPickT rfl rfl) (tGo rfl rfl (tQ rfl (qMove rfl) ?_)))))))
                  refine tCase 43 rfl (fun g43 => ?_) (fun g43 => ?_)
                  · refine tGo rfl rfl (tQ rfl (qMove rfl) (tGo rfl rfl (tQ rfl (qLe rfl rfl) (tGo rfl rfl (tQ rfl (qPickT rfl rfl) (tQ rfl (qPickF rfl rfl) (tQ rfl (qAssign rfl) (tEnd (xThen (cSeq (cReg (tQ rfl (qMove rfl) (tQ rfl (qNot rfl) (tEnd (xThen ?_)))))))))))))))
                    refine cIf rfl (fun c49 => ?_) (fun c49 => ?_)
                    · refine cSeq (cReg (tQ rfl (qAssign rfl) (tEnd (xThen (cRet (xRetBlock (xRetThen (xRetThen (xRetBlock (xRetThen ?_))))))))))
                      refine xRet1 _ Tryd.results106 rfl fun w' s' => ⟨congrArg Value.bool (Eq.symm (decide_eq_false ?_)), s'.toExt (Sub.refl _)⟩
                      rintro ⟨_, h⟩
                      have := h k hlt
                      unfold nameC at this
                      simp only [Go.V.dsl, reduceCtorEq] at *
                      omega
                    · refine cSkip (xBlock (xThen (cReg (tQ rfl (qMove rfl) (tQ rfl (qAdd rfl rfl (w64 (by omega) (by omega))) (tQ rfl (qAssign rfl) (tEnd ?_)))))))
                      refine xRound _ (k + 1) ?_ (by dsimp only; omega) (le_of ⟨rfl, rfl, trivial⟩) (fun _ s => s)
                      refine ⟨by omega, fun j hj => ?_⟩
                      rcases Nat.lt_or_ge j k with h | h
                      · exact hok j h
                      · obtain rfl : j = k := by omega
                        unfold nameC
                        simp only [Go.V.dsl, reduceCtorEq] at *
                        omega
                  · refine tNo rfl rfl rfl rfl (tNo rfl rfl rfl rfl (tGo rfl rfl (tQ rfl (qPickF rfl rfl) (tQ rfl (qPickF rfl rfl) (tQ rfl (qAssign rfl) (tEnd (xThen (cSeq (cReg (tQ rfl (qMove rfl) (tQ rfl (qNot rfl) (tEnd (xThen (cIfT rfl (cSeq (cReg ?_))))))))))))))))
                    refine tQ rfl (qAssign rfl) (tEnd (xThen (cRet (xRetBlock (xRetThen (xRetThen (xRetBlock (xRetThen ?_))))))))
                    refine xRet1 _ Tryd.results106 rfl fun w' s' => ⟨congrArg Value.bool (Eq.symm (decide_eq_false ?_)), s'.toExt (Sub.refl _)⟩
                    rintro ⟨_, h⟩
                    have := h k hlt
                    unfold nameC at this
                    simp only [Go.V.dsl, reduceCtorEq] at *
                    omega
                · refine tNo rfl rfl rfl rfl (tNo rfl rfl rfl rfl (tGo rfl rfl (tQ rfl (qPickF rfl rfl) (tGo rfl rfl (tQ rfl (qMove rfl) (tNo rfl rfl rfl rfl (tNo rfl rfl rfl rfl (tGo rfl rfl (tQ rfl (qPickF rfl rfl) (tQ rfl (qPickF rfl rfl) (tQ rfl (qAssign rfl) ?_)))))))))))
                  refine tEnd (xThen (cSeq (cReg (tQ rfl (qMove rfl) (tQ rfl (qNot rfl) (tEnd (xThen (cIfT rfl (cSeq (cReg (tQ rfl (qAssign rfl) (tEnd (xThen (cRet (xRetBlock (xRetThen (xRetThen (xRetBlock (xRetThen ?_)))))))))))))))))))
                  refine xRet1 _ Tryd.results106 rfl fun w' s' => ⟨congrArg Value.bool (Eq.symm (decide_eq_false ?_)), s'.toExt (Sub.refl _)⟩
                  rintro ⟨_, h⟩
                  have := h k hlt
                  unfold nameC at this
                  simp only [Go.V.dsl, reduceCtorEq] at *
                  omega
          · refine tNo rfl rfl rfl rfl (tNo rfl rfl rfl rfl (tGo rfl rfl (tQ rfl (qPickF rfl rfl) (tQ rfl (qPickF rfl rfl) (tQ rfl (qMove rfl) (tGo rfl rfl (tQ rfl (qMove rfl) (tGo rfl rfl (tQ rfl (qEq rfl rfl) (tQ rfl (qPickF rfl rfl) (tQ rfl (qMove rfl) ?_)))))))))))
            refine tCase 36 rfl (fun g36 => ?_) (fun g36 => ?_)
            · refine tNo rfl rfl rfl rfl (tNo rfl rfl rfl rfl (tNo rfl rfl rfl rfl (tNoU rfl rfl rfl (tNoU rfl rfl rfl (tNo rfl rfl rfl rfl (tNo rfl rfl rfl rfl (tNoU rfl rfl rfl (tNoU rfl rfl rfl (tNo rfl rfl rfl rfl (tQ rfl (qPickT rfl rfl) (tQ rfl (qAssign rfl) ?_)))))))))))
              refine tEnd (xThen (cSeq (cReg (tQ rfl (qMove rfl) (tQ rfl (qNot rfl) (tEnd (xThen (cIfF rfl (cSkip (xBlock (xThen (cReg (tQ rfl (qMove rfl) (tQ rfl (qAdd rfl rfl (w64 (by omega) (by omega))) (tQ rfl (qAssign rfl) (tEnd ?_))))))))))))))))
              refine xRound _ (k + 1) ?_ (by dsimp only; omega) (le_of ⟨rfl, rfl, trivial⟩) (fun _ s => s)
              refine ⟨by omega, fun j hj => ?_⟩
              rcases Nat.lt_or_ge j k with h | h
              · exact hok j h
              · obtain rfl : j = k := by omega
                unfold nameC
                simp only [Go.V.dsl, reduceCtorEq] at *
                omega
            · refine tGo rfl rfl (tQ rfl (qMove rfl) (tGo rfl rfl (tQ rfl (qGt rfl rfl) (tGo rfl rfl (tQ rfl (qMove rfl) ?_)))))
              refine tCase 39 rfl (fun g39 => ?_) (fun g39 => ?_)
              · refine tGo rfl rfl (tQ rfl (qMove rfl) (tGo rfl rfl (tQ rfl (qGe rfl rfl) (tGo rfl rfl (tQ rfl (qPickT rfl rfl) (tGo rfl rfl (tQ rfl (qMove rfl) ?_)))))))
                refine tCase 43 rfl (fun g43 => ?_) (fun g43 => ?_)
                · refine tGo rfl rfl (tQ rfl (qMove rfl) (tGo rfl rfl (tQ rfl (qLe rfl rfl) (tGo rfl rfl (tQ rfl (qPickT rfl rfl) (tQ rfl (qPickF rfl rfl) (tQ rfl (qAssign rfl) (tEnd (xThen (cSeq (cReg (tQ rfl (qMove rfl) (tQ rfl (qNot rfl) (tEnd (xThen ?_)))))))))))))))
                  refine cIf rfl (fun c49 => ?_) (fun c49 => ?_)
                  · refine cSeq (cReg (tQ rfl (qAssign rfl) (tEnd (xThen (cRet (xRetBlock (xRetThen (xRetThen (xRetBlock (xRetThen ?_))))))))))
                    refine xRet1 _ Tryd.results106 rfl fun w' s' => ⟨congrArg Value.bool (Eq.symm (decide_eq_false ?_)), s'.toExt (Sub.refl _)⟩
                    rintro ⟨_, h⟩
                    have := h k hlt
                    unfold nameC at this
                    simp only [Go.V.dsl, reduceCtorEq] at *
                    omega
                  · refine cSkip (xBlock (xThen (cReg (tQ rfl (qMove rfl) (tQ rfl (qAdd rfl rfl (w64 (by omega) (by omega))) (tQ rfl (qAssign rfl) (tEnd ?_)))))))
                    refine xRound _ (k + 1) ?_ (by dsimp only; omega) (le_of ⟨rfl, rfl, trivial⟩) (fun _ s => s)
                    refine ⟨by omega, fun j hj => ?_⟩
                    rcases Nat.lt_or_ge j k with h | h
                    · exact hok j h
                    · obtain rfl : j = k := by omega
                      unfold nameC
                      simp only [Go.V.dsl, reduceCtorEq] at *
                      omega
                · refine tNo rfl rfl rfl rfl (tNo rfl rfl rfl rfl (tGo rfl rfl (tQ rfl (qPickF rfl rfl) (tQ rfl (qPickF rfl rfl) (tQ rfl (qAssign rfl) (tEnd (xThen (cSeq (cReg (tQ rfl (qMove rfl) (tQ rfl (qNot rfl) (tEnd (xThen (cIfT rfl (cSeq (cReg ?_))))))))))))))))
                  refine tQ rfl (qAssign rfl) (tEnd (xThen (cRet (xRetBlock (xRetThen (xRetThen (xRetBlock (xRetThen ?_))))))))
                  refine xRet1 _ Tryd.results106 rfl fun w' s' => ⟨congrArg Value.bool (Eq.symm (decide_eq_false ?_)), s'.toExt (Sub.refl _)⟩
                  rintro ⟨_, h⟩
                  have := h k hlt
                  unfold nameC at this
                  simp only [Go.V.dsl, reduceCtorEq] at *
                  omega
              · refine tNo rfl rfl rfl rfl (tNo rfl rfl rfl rfl (tGo rfl rfl (tQ rfl (qPickF rfl rfl) (tGo rfl rfl (tQ rfl (qMove rfl) (tNo rfl rfl rfl rfl (tNo rfl rfl rfl rfl (tGo rfl rfl (tQ rfl (qPickF rfl rfl) (tQ rfl (qPickF rfl rfl) (tQ rfl (qAssign rfl) ?_)))))))))))
                refine tEnd (xThen (cSeq (cReg (tQ rfl (qMove rfl) (tQ rfl (qNot rfl) (tEnd (xThen (cIfT rfl (cSeq (cReg (tQ rfl (qAssign rfl) (tEnd (xThen (cRet (xRetBlock (xRetThen (xRetThen (xRetBlock (xRetThen ?_)))))))))))))))))))
                refine xRet1 _ Tryd.results106 rfl fun w' s' => ⟨congrArg Value.bool (Eq.symm (decide_eq_false ?_)), s'.toExt (Sub.refl _)⟩
                rintro ⟨_, h⟩
                have := h k hlt
                unfold nameC at this
                simp only [Go.V.dsl, reduceCtorEq] at *
                omega
      · refine tNo rfl rfl rfl rfl (tNo rfl rfl rfl rfl (tQ rfl (qPickF rfl rfl) (tQ rfl (qMove rfl) (tGo rfl rfl (tQ rfl (qMove rfl) (tGo rfl rfl (tQ rfl (qGe rfl rfl) (tGo rfl rfl (tQ rfl (qMove rfl) ?_)))))))))
        refine tCase 27 rfl (fun g27 => ?_) (fun g27 => ?_)
        · refine tGo rfl rfl (tQ rfl (qMove rfl) (tGo rfl rfl (tQ rfl (qLe rfl rfl) (tGo rfl rfl (tQ rfl (qPickT rfl rfl) (tQ rfl (qPickF rfl rfl) (tQ rfl (qMove rfl) ?_)))))))
          refine tCase 32 rfl (fun g32 => ?_) (fun g32 => ?_)
          · refine tNo rfl rfl rfl rfl (tNo rfl rfl rfl rfl (tQ rfl (qPickT rfl rfl) (tQ rfl (qMove rfl) (tNo rfl rfl rfl rfl (tNo rfl rfl rfl rfl (tNo rfl rfl rfl rfl (tNoU rfl rfl rfl (tNoU rfl rfl rfl (tNo rfl rfl rfl rfl (tNo rfl rfl rfl rfl (tNoU rfl rfl rfl ?_)))))))))))
            refine tNoU rfl rfl rfl (tNo rfl rfl rfl rfl (tQ rfl (qPickT rfl rfl) (tQ rfl (qAssign rfl) (tEnd (xThen (cSeq (cReg (tQ rfl (qMove rfl) (tQ rfl (qNot rfl) (tEnd (xThen (cIfF rfl (cSkip (xBlock (xThen (cReg (tQ rfl (qMove rfl) (tQ rfl (qAdd rfl rfl (w64 (by omega) (by omega))) ?_))))))))))))))))))
            refine tQ rfl (qAssign rfl) (tEnd ?_)
            refine xRound _ (k + 1) ?_ (by dsimp only; omega) (le_of ⟨rfl, rfl, trivial⟩) (fun _ s => s)
            refine ⟨by omega, fun j hj => ?_⟩
            rcases Nat.lt_or_ge j k with h | h
            · exact hok j h
            · obtain rfl : j = k := by omega
              unfold nameC
              simp only [Go.V.dsl, reduceCtorEq] at *
              omega
          · refine tGo rfl rfl (tQ rfl (qMove rfl) (tGo rfl rfl (tQ rfl (qEq rfl rfl) (tQ rfl (qPickF rfl rfl) (tQ rfl (qMove rfl) ?_)))))
            refine tCase 36 rfl (fun g36 => ?_) (fun g36 => ?_)
            · refine tNo rfl rfl rfl rfl (tNo rfl rfl rfl rfl (tNo rfl rfl rfl rfl (tNoU rfl rfl rfl (tNoU rfl rfl rfl (tNo rfl rfl rfl rfl (tNo rfl rfl rfl rfl (tNoU rfl rfl rfl (tNoU rfl rfl rfl (tNo rfl rfl rfl rfl (tQ rfl (qPickT rfl rfl) (tQ rfl (qAssign rfl) ?_)))))))))))
              refine tEnd (xThen (cSeq (cReg (tQ rfl (qMove rfl) (tQ rfl (qNot rfl) (tEnd (xThen (cIfF rfl (cSkip (xBlock (xThen (cReg (tQ rfl (qMove rfl) (tQ rfl (qAdd rfl rfl (w64 (by omega) (by omega))) (tQ rfl (qAssign rfl) (tEnd ?_))))))))))))))))
              refine xRound _ (k + 1) ?_ (by dsimp only; omega) (le_of ⟨rfl, rfl, trivial⟩) (fun _ s => s)
              refine ⟨by omega, fun j hj => ?_⟩
              rcases Nat.lt_or_ge j k with h | h
              · exact hok j h
              · obtain rfl : j = k := by omega
                unfold nameC
                simp only [Go.V.dsl, reduceCtorEq] at *
                omega
            · refine tGo rfl rfl (tQ rfl (qMove rfl) (tGo rfl rfl (tQ rfl (qGt rfl rfl) (tGo rfl rfl (tQ rfl (qMove rfl) ?_)))))
              refine tCase 39 rfl (fun g39 => ?_) (fun g39 => ?_)
              · refine tGo rfl rfl (tQ rfl (qMove rfl) (tGo rfl rfl (tQ rfl (qGe rfl rfl) (tGo rfl rfl (tQ rfl (qPickT rfl rfl) (tGo rfl rfl (tQ rfl (qMove rfl) ?_)))))))
                refine tCase 43 rfl (fun g43 => ?_) (fun g43 => ?_)
                · refine tGo rfl rfl (tQ rfl (qMove rfl) (tGo rfl rfl (tQ rfl (qLe rfl rfl) (tGo rfl rfl (tQ rfl (qPickT rfl rfl) (tQ rfl (qPickF rfl rfl) (tQ rfl (qAssign rfl) (tEnd (xThen (cSeq (cReg (tQ rfl (qMove rfl) (tQ rfl (qNot rfl) (tEnd (xThen ?_)))))))))))))))
                  refine cIf rfl (fun c49 => ?_) (fun c49 => ?_)
                  · refine cSeq (cReg (tQ rfl (qAssign rfl) (tEnd (xThen (cRet (xRetBlock (xRetThen (xRetThen (xRetBlock (xRetThen ?_))))))))))
                    refine xRet1 _ Tryd.results106 rfl fun w' s' => ⟨congrArg Value.bool (Eq.symm (decide_eq_false ?_)), s'.toExt (Sub.refl _)⟩
                    rintro ⟨_, h⟩
                    have := h k hlt
                    unfold nameC at this
                    simp only [Go.V.dsl, reduceCtorEq] at *
                    omega
                  · refine cSkip (xBlock (xThen (cReg (tQ rfl (qMove rfl) (tQ rfl (qAdd rfl rfl (w64 (by omega) (by omega))) (tQ rfl (qAssign rfl) (tEnd ?_)))))))
                    refine xRound _ (k + 1) ?_ (by dsimp only; omega) (le_of ⟨rfl, rfl, trivial⟩) (fun _ s => s)
                    refine ⟨by omega, fun j hj => ?_⟩
                    rcases Nat.lt_or_ge j k with h | h
                    · exact hok j h
                    · obtain rfl : j = k := by omega
                      unfold nameC
                      simp only [Go.V.dsl, reduceCtorEq] at *
                      omega
                · refine tNo rfl rfl rfl rfl (tNo rfl rfl rfl rfl (tGo rfl rfl (tQ rfl (qPickF rfl rfl) (tQ rfl (qPickF rfl rfl) (tQ rfl (qAssign rfl) (tEnd (xThen (cSeq (cReg (tQ rfl (qMove rfl) (tQ rfl (qNot rfl) (tEnd (xThen (cIfT rfl (cSeq (cReg ?_))))))))))))))))
                  refine tQ rfl (qAssign rfl) (tEnd (xThen (cRet (xRetBlock (xRetThen (xRetThen (xRetBlock (xRetThen ?_))))))))
                  refine xRet1 _ Tryd.results106 rfl fun w' s' => ⟨congrArg Value.bool (Eq.symm (decide_eq_false ?_)), s'.toExt (Sub.refl _)⟩
                  rintro ⟨_, h⟩
                  have := h k hlt
                  unfold nameC at this
                  simp only [Go.V.dsl, reduceCtorEq] at *
                  omega
              · refine tNo rfl rfl rfl rfl (tNo rfl rfl rfl rfl (tGo rfl rfl (tQ rfl (qPickF rfl rfl) (tGo rfl rfl (tQ rfl (qMove rfl) (tNo rfl rfl rfl rfl (tNo rfl rfl rfl rfl (tGo rfl rfl (tQ rfl (qPickF rfl rfl) (tQ rfl (qPickF rfl rfl) (tQ rfl (qAssign rfl) ?_)))))))))))
                refine tEnd (xThen (cSeq (cReg (tQ rfl (qMove rfl) (tQ rfl (qNot rfl) (tEnd (xThen (cIfT rfl (cSeq (cReg (tQ rfl (qAssign rfl) (tEnd (xThen (cRet (xRetBlock (xRetThen (xRetThen (xRetBlock (xRetThen ?_)))))))))))))))))))
                refine xRet1 _ Tryd.results106 rfl fun w' s' => ⟨congrArg Value.bool (Eq.symm (decide_eq_false ?_)), s'.toExt (Sub.refl _)⟩
                rintro ⟨_, h⟩
                have := h k hlt
                unfold nameC at this
                simp only [Go.V.dsl, reduceCtorEq] at *
                omega
        · refine tNo rfl rfl rfl rfl (tNo rfl rfl rfl rfl (tGo rfl rfl (tQ rfl (qPickF rfl rfl) (tQ rfl (qPickF rfl rfl) (tQ rfl (qMove rfl) (tGo rfl rfl (tQ rfl (qMove rfl) (tGo rfl rfl (tQ rfl (qEq rfl rfl) (tQ rfl (qPickF rfl rfl) (tQ rfl (qMove rfl) ?_)))))))))))
          refine tCase 36 rfl (fun g36 => ?_) (fun g36 => ?_)
          · refine tNo rfl rfl rfl rfl (tNo rfl rfl rfl rfl (tNo rfl rfl rfl rfl (tNoU rfl rfl rfl (tNoU rfl rfl rfl (tNo rfl rfl rfl rfl (tNo rfl rfl rfl rfl (tNoU rfl rfl rfl (tNoU rfl rfl rfl (tNo rfl rfl rfl rfl (tQ rfl (qPickT rfl rfl) (tQ rfl (qAssign rfl) ?_)))))))))))
            refine tEnd (xThen (cSeq (cReg (tQ rfl (qMove rfl) (tQ rfl (qNot rfl) (tEnd (xThen (cIfF rfl (cSkip (xBlock (xThen (cReg (tQ rfl (qMove rfl) (tQ rfl (qAdd rfl rfl (w64 (by omega) (by omega))) (tQ rfl (qAssign rfl) (tEnd ?_))))))))))))))))
            refine xRound _ (k + 1) ?_ (by dsimp only; omega) (le_of ⟨rfl, rfl, trivial⟩) (fun _ s => s)
            refine ⟨by omega, fun j hj => ?_⟩
            rcases Nat.lt_or_ge j k with h | h
            · exact hok j h
            · obtain rfl : j = k := by omega
              unfold nameC
              simp only [Go.V.dsl, reduceCtorEq] at *
              omega
          · refine tGo rfl rfl (tQ rfl (qMove rfl) (tGo rfl rfl (tQ rfl (qGt rfl rfl) (tGo rfl rfl (tQ rfl (qMove rfl) ?_)))))
            refine tCase 39 rfl (fun g39 => ?_) (fun g39 => ?_)
            · refine tGo rfl rfl (tQ rfl (qMove rfl) (tGo rfl rfl (tQ rfl (qGe rfl rfl) (tGo rfl rfl (tQ rfl (qPickT rfl rfl) (tGo rfl rfl (tQ rfl (qMove rfl) ?_)))))))
              refine tCase 43 rfl (fun g43 => ?_) (fun g43 => ?_)
              · refine tGo rfl rfl (tQ rfl (qMove rfl) (tGo rfl rfl (tQ rfl (qLe rfl rfl) (tGo rfl rfl (tQ rfl (qPickT rfl rfl) (tQ rfl (qPickF rfl rfl) (tQ rfl (qAssign rfl) (tEnd (xThen (cSeq (cReg (tQ rfl (qMove rfl) (tQ rfl (qNot rfl) (tEnd (xThen ?_)))))))))))))))
                refine cIf rfl (fun c49 => ?_) (fun c49 => ?_)
                · refine cSeq (cReg (tQ rfl (qAssign rfl) (tEnd (xThen (cRet (xRetBlock (xRetThen (xRetThen (xRetBlock (xRetThen ?_))))))))))
                  refine xRet1 _ Tryd.results106 rfl fun w' s' => ⟨congrArg Value.bool (Eq.symm (decide_eq_false ?_)), s'.toExt (Sub.refl _)⟩
                  rintro ⟨_, h⟩
                  have := h k hlt
                  unfold nameC at this
                  simp only [Go.V.dsl, reduceCtorEq] at *
                  omega
                · refine cSkip (xBlock (xThen (cReg (tQ rfl (qMove rfl) (tQ rfl (qAdd rfl rfl (w64 (by omega) (by omega))) (tQ rfl (qAssign rfl) (tEnd ?_)))))))
                  refine xRound _ (k + 1) ?_ (by dsimp only; omega) (le_of ⟨rfl, rfl, trivial⟩) (fun _ s => s)
                  refine ⟨by omega, fun j hj => ?_⟩
                  rcases Nat.lt_or_ge j k with h | h
                  · exact hok j h
                  · obtain rfl : j = k := by omega
                    unfold nameC
                    simp only [Go.V.dsl, reduceCtorEq] at *
                    omega
              · refine tNo rfl rfl rfl rfl (tNo rfl rfl rfl rfl (tGo rfl rfl (tQ rfl (qPickF rfl rfl) (tQ rfl (qPickF rfl rfl) (tQ rfl (qAssign rfl) (tEnd (xThen (cSeq (cReg (tQ rfl (qMove rfl) (tQ rfl (qNot rfl) (tEnd (xThen (cIfT rfl (cSeq (cReg ?_))))))))))))))))
                refine tQ rfl (qAssign rfl) (tEnd (xThen (cRet (xRetBlock (xRetThen (xRetThen (xRetBlock (xRetThen ?_))))))))
                refine xRet1 _ Tryd.results106 rfl fun w' s' => ⟨congrArg Value.bool (Eq.symm (decide_eq_false ?_)), s'.toExt (Sub.refl _)⟩
                rintro ⟨_, h⟩
                have := h k hlt
                unfold nameC at this
                simp only [Go.V.dsl, reduceCtorEq] at *
                omega
            · refine tNo rfl rfl rfl rfl (tNo rfl rfl rfl rfl (tGo rfl rfl (tQ rfl (qPickF rfl rfl) (tGo rfl rfl (tQ rfl (qMove rfl) (tNo rfl rfl rfl rfl (tNo rfl rfl rfl rfl (tGo rfl rfl (tQ rfl (qPickF rfl rfl) (tQ rfl (qPickF rfl rfl) (tQ rfl (qAssign rfl) ?_)))))))))))
              refine tEnd (xThen (cSeq (cReg (tQ rfl (qMove rfl) (tQ rfl (qNot rfl) (tEnd (xThen (cIfT rfl (cSeq (cReg (tQ rfl (qAssign rfl) (tEnd (xThen (cRet (xRetBlock (xRetThen (xRetThen (xRetBlock (xRetThen ?_)))))))))))))))))))
              refine xRet1 _ Tryd.results106 rfl fun w' s' => ⟨congrArg Value.bool (Eq.symm (decide_eq_false ?_)), s'.toExt (Sub.refl _)⟩
              rintro ⟨_, h⟩
              have := h k hlt
              unfold nameC at this
              simp only [Go.V.dsl, reduceCtorEq] at *
              omega
    · refine cExit (xExitThen (xExitThen (xExitBlock (xThen (cSeq (cReg (tQ rfl (qAssign rfl) (tEnd (xThen (cRet ?_))))))))))
      refine xRet1 _ Tryd.results106 rfl fun w' s' => ⟨congrArg Value.bool (Eq.symm (decide_eq_true ?_)), s'.toExt (Sub.refl _)⟩
      have hk' : k = s.size := by simp at c12; omega
      subst hk'
      exact ⟨by simp at c8; omega, hok⟩

theorem index_ {F : Hp} {w : World} {A : Option Addr} {n c : Nat} {ss : List ByteArray} {y : ByteArray} (hF : Sub F (hp w)) (hx : RdS F A n ss) (hn : n ≤ 1000000000) :
    Calls Tryd.prog 166 [.slice A n c, .string y].toArray w (fun e w' => ∃ v : Int, e = .returned (.int .i64 v) ∧ (0 ≤ v ↔ ∃ k, k < n ∧ gS ss k = y) ∧ Ext w w') := by
  replace hx := hx.mono hF
  refine Calls.mono (enter (R := fun v w' => ∃ z : Int, v = .int .i64 z ∧ (0 ≤ z ↔ ∃ k, k < n ∧ gS ss k = y) ∧ Ext w w') 19 Tryd.func166 Tryd.ntmps166 rfl rfl (WS.start w) ?_) (fun e w' ⟨v, h1, z, h2, h3⟩ => ⟨z, h2 ▸ h1, h3⟩)
  refine cSeq (cReg (tQ rfl (qAssign rfl) (tEnd (xThen (cSeq (cSeq (cReg (tQ rfl (qMove rfl) (tQ rfl (qLen Tryd.runUnderlying29 rfl rfl) (tQ rfl (qMove rfl) (tEnd (xThen (cBlock (cLoop (⟨fun (k : Nat) => [(0, .slice A n c), (1, .string y), (7, .int .i64 n), (8, .int .i64 k)], fun (k : Nat) => hp w, fun (k : Nat) => [], fun (k : Nat) => k ≤ n ∧ ∀ j, j < k → gS ss j ≠ y, fun (k : Nat) => n - k⟩ : LI (Nat)) (loopStart _ 0 ⟨by omega, fun j hj => by omega⟩ (le_of ⟨rfl, rfl, rfl, rfl, trivial⟩) (fun _ s => s)) ?_))))))))))))))
  rintro k ⟨hk, hok⟩
  refine cSeq (cReg (tQ rfl (qLt rfl rfl) (tEnd (xThen (cSeq ?_)))))
  refine cIf rfl (fun c9 => ?_) (fun c9 => ?_)
  · refine cSkip (xThen (cSeq (cBlock (cSeq ?_))))
    have hlt : k < n := by simp at c9; omega
    obtain ⟨b, o, rfl, h1⟩ := hx.at_ (by omega)
    refine cReg (tQ rfl (qMove rfl) (tQ rfl (qAssign rfl) (tEnd (xThen (cSeq (cReg (tQ rfl (qMove rfl) (tQ rfl (qMove rfl) (tQ rfl (qMove rfl) (tQ rfl (qIdxAddr Tryd.runUnderlying29 Tryd.sizeOf9 rfl rfl rfl (by omega)) (tQ rfl (qLd1 Tryd.isAgg9 rfl (h1 k hlt)) (tQ rfl (qStrEq rfl rfl) (tEnd (xThen ?_))))))))))))))
    refine cIf rfl (fun c16 => ?_) (fun c16 => ?_)
    · refine cSeq (cReg (tQ rfl (qMove rfl) (tQ rfl (qAssign rfl) (tEnd (xThen (cRet (xRetBlock (xRetThen (xRetThen (xRetBlock (xRetThen ?_)))))))))))
      refine xRet1 _ Tryd.results166 rfl fun w' s' => ⟨_, rfl, ⟨fun _ => ⟨k, hlt, by simp at c16; exact c16.symm⟩, fun _ => by omega⟩, s'.toExt (Sub.refl _)⟩
    · refine cSkip (xBlock (xThen (cReg (tQ rfl (qAdd rfl rfl (w64 (by omega) (by omega))) (tQ rfl (qMove rfl) (tEnd ?_))))))
      refine xRound _ (k + 1) ?_ (by dsimp only; omega) (le_of ⟨rfl, rfl, rfl, rfl, trivial⟩) (fun _ s => s)
      refine ⟨by omega, fun j hj => ?_⟩
      rcases Nat.lt_or_ge j k with h | h
      · exact hok j h
      · obtain rfl : j = k := by omega
        exact fun e => absurd e.symm (by simpa only [decide_eq_false_iff_not] using c16)
  · refine cExit (xExitThen (xExitThen (xExitBlock (xThen (cSeq (cReg (tQ rfl (qAssign rfl) (tEnd (xThen (cRet ?_))))))))))
    refine xRet1 _ Tryd.results166 rfl fun w' s' => ⟨_, rfl, ⟨fun h => by omega, fun ⟨j, h1, h2⟩ => absurd h2 (hok j (by simp at c9; omega))⟩, s'.toExt (Sub.refl _)⟩

theorem contains_ {F : Hp} {w : World} {A : Option Addr} {n c : Nat} {ss : List ByteArray} {y : ByteArray} (hF : Sub F (hp w)) (hx : RdS F A n ss) (hn : n ≤ 1000000000) :
    Calls Tryd.prog 144 [.slice A n c, .string y].toArray w (fun e w' => e = .returned (.bool (decide (∃ k, k < n ∧ gS ss k = y))) ∧ Ext w w') := by
  refine enter' 9 Tryd.func144 Tryd.ntmps144 rfl rfl (cSeq (cReg (tQ rfl (qAssign rfl) (tEnd (xThen (cSeq (cReg (tQ rfl (qMove rfl) (tQ rfl (qMove rfl) (tCallG rfl Tryd.call166 rfl rfl (Post := fun v F' M' => ∃ z : Int, v = .int .i64 z ∧ (0 ≤ z ↔ ∃ k, k < n ∧ gS ss k = y) ∧ F' = hp w ∧ M' = []) (fun w' s => (index_ (hF.trans s.sub) hx hn).mono fun e w2 ⟨z, h1, h2, h3⟩ => ⟨_, h1, hp w, [], ⟨z, rfl, h2, rfl, rfl⟩, s.ext h3⟩) fun v F' M' hP => ?_))))))))))
  obtain ⟨z, rfl, hz, rfl, rfl⟩ := hP
  refine tQ rfl (qGe rfl rfl) (tQ rfl (qAssign rfl) (tEnd (xThen (cRet ?_))))
  refine xRet1 _ Tryd.results144 rfl fun w' s' => ⟨congrArg Value.bool ?_, s'.toExt (Sub.refl _)⟩
  simp only [← hz]

theorem allNamed_ {F : Hp} {w : World} {A : Option Addr} {n c : Nat} {ss : List ByteArray} (hF : Sub F (hp w)) (hx : RdS F A n ss) (hn : n ≤ 1000000000) (hb : ∀ s ∈ ss, s.size ≤ 1000000000) (hc : n ≤ c) :
    Calls Tryd.prog 114 [.slice A n c].toArray w (fun e w' => e = .returned (.bool (decide (namesOk ss))) ∧ Ext w w') := by
  replace hx := hx.mono hF
  have hxl := hx.len
  have hbk : ∀ k, k < n → (gS ss k).size ≤ 1000000000 := fun k hk => hb _ (by unfold gS List.getD; rw [List.getElem?_eq_getElem (by omega)]; exact List.getElem_mem _)
  refine enter' 30 Tryd.func114 Tryd.ntmps114 rfl rfl (cSeq (cReg (tQ rfl (qAssign rfl) (tEnd (xThen (cSeq (cSeq (cReg (tQ rfl (qMove rfl) (tQ rfl (qLen Tryd.runUnderlying29 rfl rfl) (tQ rfl (qMove rfl) (tEnd (xThen (cBlock (cLoop (⟨fun (k : Nat) => [(0, .slice A n c), (5, .slice A n c), (6, .int .i64 n), (7, .int .i64 k)], fun (k : Nat) => hp w, fun (k : Nat) => [], fun (k : Nat) => k ≤ n ∧ ∀ j, j < k → nameAt ss j, fun (k : Nat) => n - k⟩ : LI (Nat)) (loopStart _ 0 ⟨by omega, fun j hj => by omega⟩ (le_of ⟨rfl, rfl, rfl, rfl, trivial⟩) (fun _ s => s)) ?_)))))))))))))))
  rintro k ⟨hk, hok⟩
  refine cSeq (cReg (tQ rfl (qLt rfl rfl) (tEnd (xThen (cSeq ?_)))))
  refine cIf rfl (fun c8 => ?_) (fun c8 => ?_)
  · refine cSkip (xThen (cSeq (cBlock (cSeq ?_))))
    have hlt : k < n := by simp at c8; omega
    obtain ⟨b, o, rfl, h1⟩ := hx.at_ (by omega)
    have hsub : RdS (hp w) (some ⟨b, o, none⟩) k (ss.take k) := ⟨by simp; omega, fun _ => ⟨b, o, rfl, fun i hi => by rw [h1 i (by omega)]; simp [List.getD, List.getElem?_take, hi]⟩⟩
    have htk : ∀ i, i < k → gS (ss.take k) i = gS ss i := fun i hi => by simp [gS, List.getD, List.getElem?_take, hi]
    refine cReg (tQ rfl (qMove rfl) (tQ rfl (qIdxAddr Tryd.runUnderlying29 Tryd.sizeOf9 rfl rfl rfl (by omega)) (tQ rfl (qLd1 Tryd.isAgg9 rfl (h1 k hlt)) (tQ rfl (qAssign rfl) (tQ rfl (qAssign rfl) (tEnd (xThen (cSeq (cReg (tQ rfl (qMove rfl) (tCallQ rfl Tryd.call143 (first := []) (captured := []) rfl rfl (fun w' s' => name_ (hbk k hlt)) (tQ rfl (qNot rfl) (tQ rfl (qMove rfl) ?_)))))))))))))
    refine tCase 15 rfl (fun g15 => ?_) (fun g15 => ?_)
    · refine tNo rfl rfl rfl rfl (tNo rfl rfl rfl rfl (tNo rfl rfl rfl rfl (tNoU rfl rfl rfl (tNoU rfl rfl rfl (tNoU rfl rfl rfl (tNoU rfl rfl rfl (tNoU rfl rfl rfl (tNo rfl rfl rfl rfl (tQ rfl (qPickT rfl rfl) (tEnd (xThen (cIfT rfl ?_))))))))))))
      refine cSeq (cReg (tQ rfl (qAssign rfl) (tEnd (xThen (cRet (xRetBlock (xRetThen (xRetThen (xRetBlock (xRetThen ?_))))))))))
      refine xRet1 _ Tryd.results114 rfl fun w' s' => ⟨congrArg Value.bool (Eq.symm (decide_eq_false ?_)), s'.toExt (Sub.refl _)⟩
      rintro ⟨_, h⟩
      have h := h k (by omega)
      first
        | exact absurd h.1 (by simpa using g15)
        | (have h2 := h.2 (by simpa only [Bool.not_eq_true', decide_eq_false_iff_not] using g18)
           obtain ⟨i, hi, e⟩ := (of_decide_eq_true c25 : ∃ i, i < k - 0 ∧ gS (ss.take k) i = gS ss k)
           exact h2 i (by omega) (by rw [← htk i (by omega)]; exact e))
    · refine tGo rfl rfl (tQ rfl (qMove rfl) (tGo rfl rfl (tQ rfl (qStrNe rfl rfl) (tGo rfl rfl (tQ rfl (qMove rfl) ?_)))))
      refine tCase 18 rfl (fun g18 => ?_) (fun g18 => ?_)
      · refine tGo rfl rfl (tQ rfl (qMove rfl) (tGo rfl rfl (tQ rfl (qMove rfl) (tGo rfl rfl (tQ rfl (qSliceLH Tryd.runUnderlying29 Tryd.sizeOf9 rfl ⟨fun _ e => (by cases e), fun _ => rfl⟩ ⟨fun _ e => (by cases e; exact ⟨_, rfl⟩), fun e => (by cases e)⟩ (by omega) (by omega)) (tGo rfl rfl (tQ rfl (qMove rfl) (tGo rfl rfl (tCallQ rfl Tryd.call144 (first := []) (captured := []) rfl rfl (fun w' s' => contains_ (A := some (if c = 0 then ⟨b, o, none⟩ else ⟨b, o + 0 * 1, none⟩)) (n := k - 0) s'.sub (by simpa using hsub) (by omega)) (tGo rfl rfl (tQ rfl (qPickT rfl rfl) ?_)))))))))))
        refine tQ rfl (qPickF rfl rfl) (tEnd (xThen ?_))
        refine cIf rfl (fun c25 => ?_) (fun c25 => ?_)
        · refine cSeq (cReg (tQ rfl (qAssign rfl) (tEnd (xThen (cRet (xRetBlock (xRetThen (xRetThen (xRetBlock (xRetThen ?_))))))))))
          refine xRet1 _ Tryd.results114 rfl fun w' s' => ⟨congrArg Value.bool (Eq.symm (decide_eq_false ?_)), s'.toExt (Sub.refl _)⟩
          rintro ⟨_, h⟩
          have h := h k (by omega)
          first
            | exact absurd h.1 (by simpa using g15)
            | (have h2 := h.2 (by simpa only [Bool.not_eq_true', decide_eq_false_iff_not] using g18)
               obtain ⟨i, hi, e⟩ := (of_decide_eq_true c25 : ∃ i, i < k - 0 ∧ gS (ss.take k) i = gS ss k)
               exact h2 i (by omega) (by rw [← htk i (by omega)]; exact e))
        · refine cSkip (xBlock (xThen (cReg (tQ rfl (qAdd rfl rfl (w64 (by omega) (by omega))) (tQ rfl (qMove rfl) (tEnd ?_))))))
          refine xRound _ (k + 1) ?_ (by dsimp only; omega) (le_of ⟨rfl, rfl, rfl, rfl, trivial⟩) (fun _ s => s)
          refine ⟨by omega, fun j hj => ?_⟩
          rcases Nat.lt_or_ge j k with h | h
          · exact hok j h
          · obtain rfl : j = k := by omega
            refine ⟨by simpa using g15, fun he i hi => ?_⟩
            first
              | exact absurd (by simpa using g18) he
              | exact fun e => absurd (⟨i, hi, (htk i hi).trans e⟩ : ∃ i, i < j - 0 ∧ gS (ss.take j) i = gS ss j) (of_decide_eq_false c25)
      · refine tNo rfl rfl rfl rfl (tNo rfl rfl rfl rfl (tNo rfl rfl rfl rfl (tNo rfl rfl rfl rfl (tNo rfl rfl rfl rfl (tGo rfl rfl (tQ rfl (qPickF rfl rfl) (tQ rfl (qPickF rfl rfl) (tEnd (xThen (cIfF rfl (cSkip (xBlock (xThen (cReg (tQ rfl (qAdd rfl rfl (w64 (by omega) (by omega))) ?_)))))))))))))))
        refine tQ rfl (qMove rfl) (tEnd ?_)
        refine xRound _ (k + 1) ?_ (by dsimp only; omega) (le_of ⟨rfl, rfl, rfl, rfl, trivial⟩) (fun _ s => s)
        refine ⟨by omega, fun j hj => ?_⟩
        rcases Nat.lt_or_ge j k with h | h
        · exact hok j h
        · obtain rfl : j = k := by omega
          refine ⟨by simpa using g15, fun he i hi => ?_⟩
          first
            | exact absurd (by simpa using g18) he
            | exact fun e => absurd (⟨i, hi, (htk i hi).trans e⟩ : ∃ i, i < j - 0 ∧ gS (ss.take j) i = gS ss j) (of_decide_eq_false c25)
  · refine cExit (xExitThen (xExitThen (xExitBlock (xThen (cSeq (cReg (tQ rfl (qMove rfl) (tQ rfl (qLen Tryd.runUnderlying29 rfl rfl) (tQ rfl (qLe rfl rfl) (tQ rfl (qAssign rfl) (tEnd (xThen (cRet ?_)))))))))))))
    refine xRet1 _ Tryd.results114 rfl fun w' s' => ⟨congrArg Value.bool ?_, s'.toExt (Sub.refl _)⟩
    have hk' : k = n := by simp at c8; omega
    subst hk'
    rw [Bool.eq_iff_iff]
    simp only [decide_eq_true_eq]
    exact ⟨fun h => ⟨by omega, fun i hi => hok i (by omega)⟩, fun h => by have := h.1; omega⟩

theorem names12 {F : Hp} {w : World} {A : Option Addr} {n c : Nat} {ss : List ByteArray} (hF : Sub F (hp w)) (hx : RdS F A n ss) (hn : n ≤ 1000000000) (hb : ∀ s ∈ ss, s.size ≤ 1000000000) :
    Calls Tryd.prog 50 [.slice A n c].toArray w (fun e w' => e = .returned (.bool (decide (namesOk ss))) ∧ Ext w w') := by
  replace hx := hx.mono hF
  have hxl := hx.len
  have hbk : ∀ k, k < n → (gS ss k).size ≤ 1000000000 := fun k hk => hb _ (by unfold gS List.getD; rw [List.getElem?_eq_getElem (by omega)]; exact List.getElem_mem _)
  refine enter' 41 Tryd.func50 Tryd.ntmps50 rfl rfl (cSeq (cReg (tQ rfl (qAssign rfl) (tEnd (xThen (cSeq (cSeq (cReg (tQ rfl (qMove rfl) (tQ rfl (qLen Tryd.runUnderlying29 rfl rfl) (tQ rfl (qGt rfl rfl) (tEnd (xThen ?_)))))))))))))
  refine cIf rfl (fun c7 => ?_) (fun c7 => ?_)
  · refine cSeq (cReg (tQ rfl (qAssign rfl) (tEnd (xThen (cRet (xRetThen ?_))))))
    refine xRet1 _ Tryd.results50 rfl fun w' s' => ⟨congrArg Value.bool (Eq.symm (decide_eq_false ?_)), s'.toExt (Sub.refl _)⟩
    rintro ⟨h, _⟩
    simp at *
    omega
  · refine cSkip (xThen (cSeq (cSeq (cReg (tQ rfl (qAssign rfl) (tEnd (xThen (cBlock (cLoop (⟨fun (k : Nat) => [(0, .slice A n c), (3, .int .i64 k)], fun (k : Nat) => hp w, fun (k : Nat) => [], fun (k : Nat) => k ≤ n ∧ ∀ j, j < k → nameAt ss j, fun (k : Nat) => n - k⟩ : LI (Nat)) (loopStart _ 0 ⟨by omega, fun j hj => by omega⟩ (le_of ⟨rfl, rfl, trivial⟩) (fun _ s => s)) ?_)))))))))
    rintro k ⟨hk, hok⟩
    refine cSeq (cSeq (cReg (tQ rfl (qMove rfl) (tQ rfl (qMove rfl) (tQ rfl (qLen Tryd.runUnderlying29 rfl rfl) (tQ rfl (qLt rfl rfl) (tEnd (xThen ?_))))))))
    refine cIf rfl (fun c11 => ?_) (fun c11 => ?_)
    · refine cSkip (xThen (cSeq (cBlock (cSeq (cSeq ?_)))))
      have hlt : k < n := by simp at c11; omega
      obtain ⟨b, o, rfl, h1⟩ := hx.at_ (by omega)
      refine cReg (tQ rfl (qMove rfl) (tQ rfl (qMove rfl) (tQ rfl (qIdxAddr Tryd.runUnderlying29 Tryd.sizeOf9 rfl rfl rfl (by omega)) (tQ rfl (qLd1 Tryd.isAgg9 rfl (h1 k hlt)) (tCallQ rfl Tryd.call106 (first := []) (captured := []) rfl rfl (fun w' s' => isName_ (hbk k hlt)) (tQ rfl (qNot rfl) (tEnd (xThen ?_))))))))
      refine cIf rfl (fun c19 => ?_) (fun c19 => ?_)
      · refine cSeq (cReg (tQ rfl (qAssign rfl) (tEnd (xThen (cRet (xRetThen (xRetBlock (xRetThen (xRetThen (xRetBlock (xRetThen ?_)))))))))))
        refine xRet1 _ Tryd.results50 rfl fun w' s' => ⟨congrArg Value.bool (Eq.symm (decide_eq_false ?_)), s'.toExt (Sub.refl _)⟩
        rintro ⟨_, h⟩
        exact absurd (h k (by omega)).1 (by simpa using c19)
      · refine cSkip (xThen (cSeq (cReg (tQ rfl (qAssign rfl) (tEnd (xThen (cBlock (cLoop (⟨fun (i : Nat) => [(0, .slice (some ⟨b, o, none⟩) n c), (3, .int .i64 k), (4, .int .i64 i)], fun (i : Nat) => hp w, fun (i : Nat) => [], fun (i : Nat) => i ≤ k ∧ ∀ j, j < i → gS ss k ≠ ⟨#[]⟩ → gS ss j ≠ gS ss k, fun (i : Nat) => k - i⟩ : LI (Nat)) (loopStart _ 0 ⟨by omega, fun j hj => by omega⟩ (le_of ⟨rfl, rfl, rfl, trivial⟩) (fun _ s => s)) ?_))))))))
        rintro i ⟨hi, hin⟩
        refine cSeq (cSeq (cReg (tQ rfl (qMove rfl) (tQ rfl (qMove rfl) (tQ rfl (qLt rfl rfl) (tEnd (xThen ?_)))))))
        refine cIf rfl (fun c22 => ?_) (fun c22 => ?_)
        · refine cSkip (xThen (cSeq (cBlock (cSeq ?_))))
          have hlt2 : i < k := by simp at c22; omega
          refine cDrawM 15 [(0, true), (1, true), (2, true), (3, true), (4, true), (5, true), (6, true), (7, true), (8, true), (9, true), (10, true), (11, true), (12, true), (13, true), (14, true)] Tryd.mixed (by kernel_rfl) (fun _ _ _ _ _ h => h) (dQ rfl rfl (qMove rfl) (fun _ s => s) (dQ rfl rfl (qMove rfl) (fun _ s => s) (dQ rfl rfl (qIdxAddr Tryd.runUnderlying29 Tryd.sizeOf9 rfl rfl rfl (by omega)) (fun _ s => s) (dQ rfl rfl (qLd1 Tryd.isAgg9 rfl (h1 k hlt)) (fun _ s => s) (dQ rfl rfl (qStrNe rfl rfl) (fun _ s => s) (dQ rfl rfl (qMove rfl) (fun _ s => s) ?_))))))
          refine dCase 30 rfl (fun g30 => ?_) (fun g30 => ?_)
          · refine dQgo rfl rfl rfl rfl (qMove rfl) (fun _ s => s) (dQgo rfl rfl rfl rfl (qMove rfl) (fun _ s => s) (dQgo rfl rfl rfl rfl (qIdxAddr Tryd.runUnderlying29 Tryd.sizeOf9 rfl rfl rfl (by omega)) (fun _ s => s) (dQgo rfl rfl rfl rfl (qLd1 Tryd.isAgg9 rfl (h1 i (by omega))) (fun _ s => s) (dQgo rfl rfl rfl rfl (qMove rfl) (fun _ s => s) (dQgo rfl rfl rfl rfl (qMove rfl) (fun _ s => s) (dQgo rfl rfl rfl rfl (qIdxAddr Tryd.runUnderlying29 Tryd.sizeOf9 rfl rfl rfl (by omega)) (fun _ s => s) (dQgo rfl rfl rfl rfl (qLd1 Tryd.isAgg9 rfl (h1 k hlt)) (fun _ s => s) (dQgo rfl rfl rfl rfl (qStrEq rfl rfl) (fun _ s => s) (dEnd (tQ rfl (qPickT rfl rfl) (tEnd (xThen ?_))))))))))))
            refine cIf rfl (fun c40 => ?_) (fun c40 => ?_)
            · refine cSeq (cReg (tQ rfl (qAssign rfl) (tEnd (xThen (cRet (xRetBlock (xRetThen (xRetThen (xRetBlock (xRetBlock (xRetThen (xRetThen (xRetBlock (xRetThen ?_))))))))))))))
              refine xRet1 _ Tryd.results50 rfl fun w' s' => ⟨congrArg Value.bool (Eq.symm (decide_eq_false ?_)), s'.toExt (Sub.refl _)⟩
              rintro ⟨_, h⟩
              exact (h k (by omega)).2 (by simpa only [Bool.not_eq_true', decide_eq_false_iff_not] using g30) i hlt2 (by simpa only [decide_eq_true_eq] using c40)
            · refine cSkip (xBlock (xThen (cReg (tQ rfl (qMove rfl) (tQ rfl (qAdd rfl rfl (w64 (by omega) (by omega))) (tQ rfl (qAssign rfl) (tEnd ?_)))))))
              refine xRound _ (i + 1) ?_ (by dsimp only; omega) (le_of ⟨rfl, rfl, rfl, trivial⟩) (fun _ s => s)
              refine ⟨by omega, fun j hj he => ?_⟩
              rcases Nat.lt_or_ge j i with h | h
              · exact hin j h he
              · obtain rfl : j = i := by omega
                first
                  | exact fun e => absurd e (by simpa only [decide_eq_false_iff_not] using c40)
                  | exact absurd (by simpa using g30) he
          · refine dQno rfl rfl rfl rfl rfl (fun _ s => s) (dQno rfl rfl rfl rfl rfl (fun _ s => s) (dQno rfl rfl rfl rfl rfl (fun _ s => s) (dQno rfl rfl rfl rfl rfl (fun _ s => s) (dQno rfl rfl rfl rfl rfl (fun _ s => s) (dQno rfl rfl rfl rfl rfl (fun _ s => s) (dQno rfl rfl rfl rfl rfl (fun _ s => s) (dQno rfl rfl rfl rfl rfl (fun _ s => s) (dQno rfl rfl rfl rfl rfl (fun _ s => s) (dEnd (tQ rfl (qPickF rfl rfl) (tEnd (xThen ?_))))))))))))
            refine cIfF rfl (cSkip (xBlock (xThen (cReg (tQ rfl (qMove rfl) (tQ rfl (qAdd rfl rfl (w64 (by omega) (by omega))) (tQ rfl (qAssign rfl) (tEnd ?_))))))))
            refine xRound _ (i + 1) ?_ (by dsimp only; omega) (le_of ⟨rfl, rfl, rfl, trivial⟩) (fun _ s => s)
            refine ⟨by omega, fun j hj he => ?_⟩
            rcases Nat.lt_or_ge j i with h | h
            · exact hin j h he
            · obtain rfl : j = i := by omega
              first
                | exact fun e => absurd e (by simpa only [decide_eq_false_iff_not] using c40)
                | exact absurd (by simpa using g30) he
        · refine cExit (xExitThen (xExitThen (xExitBlock (xBlock (xThen (cReg (tQ rfl (qMove rfl) (tQ rfl (qAdd rfl rfl (w64 (by omega) (by omega))) (tQ rfl (qAssign rfl) (tEnd ?_))))))))))
          refine xRound _ (k + 1) ?_ (by dsimp only; omega) (le_of ⟨rfl, rfl, trivial⟩) (fun _ s => s)
          refine ⟨by omega, fun j hj => ?_⟩
          rcases Nat.lt_or_ge j k with h | h
          · exact hok j h
          · obtain rfl : j = k := by omega
            exact ⟨by simpa using c19, fun he i hi => hin i (by simp at c22; omega) he⟩
    · refine cExit (xExitThen (xExitThen (xExitBlock (xThen (cSeq (cReg (tQ rfl (qAssign rfl) (tEnd (xThen (cRet ?_))))))))))
      refine xRet1 _ Tryd.results50 rfl fun w' s' => ⟨congrArg Value.bool (Eq.symm (decide_eq_true ?_)), s'.toExt (Sub.refl _)⟩
      have hk' : k = n := by simp at c11; omega
      exact ⟨by simp at c7; omega, fun i hi => hok i (by omega)⟩

theorem within_ {w : World} {x lo hi : Int} :
    Calls Tryd.prog 107 [.int .i64 x, .int .i64 lo, .int .i64 hi].toArray w (fun e w' => e = .returned (.bool (decide (lo ≤ x ∧ x ≤ hi))) ∧ Ext w w') := by
  refine enter' 15 Tryd.func107 Tryd.ntmps107 rfl rfl (cSeq (cReg (tQ rfl (qAssign rfl) (tEnd (xThen (cSeq (cReg (tQ rfl (qMove rfl) (tQ rfl (qMove rfl) (tQ rfl (qGe rfl rfl) (tQ rfl (qMove rfl) ?_)))))))))))
  refine tCase 10 rfl (fun g10 => ?_) (fun g10 => ?_)
  · refine tGo rfl rfl (tQ rfl (qMove rfl) (tGo rfl rfl (tQ rfl (qMove rfl) (tGo rfl rfl (tQ rfl (qLe rfl rfl) (tQ rfl (qPickT rfl rfl) (tQ rfl (qAssign rfl) (tEnd (xThen (cRet ?_))))))))))
    refine xRet1 _ Tryd.results107 rfl fun w' s' => ⟨congrArg Value.bool ?_, s'.toExt (Sub.refl _)⟩
    rw [Bool.eq_iff_iff]
    simp only [Go.V.dsl, reduceCtorEq] at *
    omega
  · refine tNo rfl rfl rfl rfl (tNo rfl rfl rfl rfl (tNo rfl rfl rfl rfl (tQ rfl (qPickF rfl rfl) (tQ rfl (qAssign rfl) (tEnd (xThen (cRet ?_)))))))
    refine xRet1 _ Tryd.results107 rfl fun w' s' => ⟨congrArg Value.bool ?_, s'.toExt (Sub.refl _)⟩
    rw [Bool.eq_iff_iff]
    simp only [Go.V.dsl, reduceCtorEq] at *
    omega

end Go.V
