/-
  Lemmas of this claim's own, part 7: contracts of the functions that the statement reaches, and the plain facts behind them.
-/
import Derived.Test.YtkebkfipjodnnaaDoorB05
set_option linter.unusedVariables false
set_option linter.unusedSimpArgs false
namespace Go.V
open Go.Proofs
set_option linter.unusedVariables false
set_option linter.unusedSimpArgs false

theorem isWordN {w : World} {c : Nat} (hc : c < 256) : Calls Tryd.prog 164 [.int .i32 c].toArray w (fun e w' => e = .returned (.bool (wordB c)) ∧ Ext w w') := by
  refine enter' 29 Tryd.func164 Tryd.ntmps164 rfl rfl (cSeq (cReg (tQ rfl (qAssign rfl) (tEnd (xThen (cSeq (cReg (tQ rfl (qMove rfl) (tQ rfl (qEq rfl rfl) (tQ rfl (qMove rfl) ?_))))))))))
  refine tCase 5 rfl (fun g5 => ?_) (fun g5 => ?_)
  · refine tNo rfl rfl rfl rfl (tNo rfl rfl rfl rfl (tNo rfl rfl rfl rfl (tNoU rfl rfl rfl (tNoU rfl rfl rfl (tNo rfl rfl rfl rfl (tQ rfl (qPickT rfl rfl) (tQ rfl (qMove rfl) (tNo rfl rfl rfl rfl (tNo rfl rfl rfl rfl (tNo rfl rfl rfl rfl (tNoU rfl rfl rfl ?_)))))))))))
    refine tNoU rfl rfl rfl (tNo rfl rfl rfl rfl (tQ rfl (qPickT rfl rfl) (tQ rfl (qMove rfl) (tNo rfl rfl rfl rfl (tNo rfl rfl rfl rfl (tNo rfl rfl rfl rfl (tNoU rfl rfl rfl (tNoU rfl rfl rfl (tNo rfl rfl rfl rfl (tQ rfl (qPickT rfl rfl) (tQ rfl (qAssign rfl) ?_)))))))))))
    refine tEnd (xThen (cRet ?_))
    refine xRet1 _ Tryd.results164 rfl fun w' s' => ⟨congrArg Value.bool ?_, s'.toExt (Sub.refl _)⟩
    rw [Bool.eq_iff_iff]
    simp only [wordB, Bool.or_eq_true, Bool.and_eq_true, decide_eq_true_eq, beq_iff_eq]
    simp only [Go.V.dsl, reduceCtorEq] at *
    omega
  · refine tGo rfl rfl (tQ rfl (qMove rfl) (tGo rfl rfl (tQ rfl (qGe rfl rfl) (tGo rfl rfl (tQ rfl (qMove rfl) ?_)))))
    refine tCase 8 rfl (fun g8 => ?_) (fun g8 => ?_)
    · refine tGo rfl rfl (tQ rfl (qMove rfl) (tGo rfl rfl (tQ rfl (qLe rfl rfl) (tGo rfl rfl (tQ rfl (qPickT rfl rfl) (tQ rfl (qPickF rfl rfl) (tQ rfl (qMove rfl) ?_)))))))
      refine tCase 13 rfl (fun g13 => ?_) (fun g13 => ?_)
      · refine tNo rfl rfl rfl rfl (tNo rfl rfl rfl rfl (tNo rfl rfl rfl rfl (tNoU rfl rfl rfl (tNoU rfl rfl rfl (tNo rfl rfl rfl rfl (tQ rfl (qPickT rfl rfl) (tQ rfl (qMove rfl) (tNo rfl rfl rfl rfl (tNo rfl rfl rfl rfl (tNo rfl rfl rfl rfl (tNoU rfl rfl rfl ?_)))))))))))
        refine tNoU rfl rfl rfl (tNo rfl rfl rfl rfl (tQ rfl (qPickT rfl rfl) (tQ rfl (qAssign rfl) (tEnd (xThen (cRet ?_))))))
        refine xRet1 _ Tryd.results164 rfl fun w' s' => ⟨congrArg Value.bool ?_, s'.toExt (Sub.refl _)⟩
        rw [Bool.eq_iff_iff]
        simp only [wordB, Bool.or_eq_true, Bool.and_eq_true, decide_eq_true_eq, beq_iff_eq]
        simp only [Go.V.dsl, reduceCtorEq] at *
        omega
      · refine tGo rfl rfl (tQ rfl (qMove rfl) (tGo rfl rfl (tQ rfl (qGe rfl rfl) (tGo rfl rfl (tQ rfl (qMove rfl) ?_)))))
        refine tCase 16 rfl (fun g16 => ?_) (fun g16 => ?_)
        · refine tGo rfl rfl (tQ rfl (qMove rfl) (tGo rfl rfl (tQ rfl (qLe rfl rfl) (tGo rfl rfl (tQ rfl (qPickT rfl rfl) (tQ rfl (qPickF rfl rfl) (tQ rfl (qMove rfl) ?_)))))))
          refine tCase 21 rfl (fun g21 => ?_) (fun g21 => ?_)
          · refine tNo rfl rfl rfl rfl (tNo rfl rfl rfl rfl (tNo rfl rfl rfl rfl (tNoU rfl rfl rfl (tNoU rfl rfl rfl (tNo rfl rfl rfl rfl (tQ rfl (qPickT rfl rfl) (tQ rfl (qAssign rfl) (tEnd (xThen (cRet ?_))))))))))
            refine xRet1 _ Tryd.results164 rfl fun w' s' => ⟨congrArg Value.bool ?_, s'.toExt (Sub.refl _)⟩
            rw [Bool.eq_iff_iff]
            simp only [wordB, Bool.or_eq_true, Bool.and_eq_true, decide_eq_true_eq, beq_iff_eq]
            simp only [Go.V.dsl, reduceCtorEq] at *
            omega
          · refine tGo rfl rfl (tQ rfl (qMove rfl) (tGo rfl rfl (tQ rfl (qGe rfl rfl) (tGo rfl rfl (tQ rfl (qMove rfl) ?_)))))
            refine tCase 24 rfl (fun g24 => ?_) (fun g24 => ?_)
            · refine tGo rfl rfl (tQ rfl (qMove rfl) (tGo rfl rfl (tQ rfl (qLe rfl rfl) (tGo rfl rfl (tQ rfl (qPickT rfl rfl) (tQ rfl (qPickF rfl rfl) (tQ rfl (qAssign rfl) (tEnd (xThen (cRet ?_))))))))))
              refine xRet1 _ Tryd.results164 rfl fun w' s' => ⟨congrArg Value.bool ?_, s'.toExt (Sub.refl _)⟩
              rw [Bool.eq_iff_iff]
              simp only [wordB, Bool.or_eq_true, Bool.and_eq_true, decide_eq_true_eq, beq_iff_eq]
              simp only [Go.V.dsl, reduceCtorEq] at *
              omega
            · refine tNo rfl rfl rfl rfl (tNo rfl rfl rfl rfl (tGo rfl rfl (tQ rfl (qPickF rfl rfl) (tQ rfl (qPickF rfl rfl) (tQ rfl (qAssign rfl) (tEnd (xThen (cRet ?_))))))))
              refine xRet1 _ Tryd.results164 rfl fun w' s' => ⟨congrArg Value.bool ?_, s'.toExt (Sub.refl _)⟩
              rw [Bool.eq_iff_iff]
              simp only [wordB, Bool.or_eq_true, Bool.and_eq_true, decide_eq_true_eq, beq_iff_eq]
              simp only [Go.V.dsl, reduceCtorEq] at *
              omega
        · refine tNo rfl rfl rfl rfl (tNo rfl rfl rfl rfl (tGo rfl rfl (tQ rfl (qPickF rfl rfl) (tQ rfl (qPickF rfl rfl) (tQ rfl (qMove rfl) (tGo rfl rfl (tQ rfl (qMove rfl) (tGo rfl rfl (tQ rfl (qGe rfl rfl) (tGo rfl rfl (tQ rfl (qMove rfl) ?_)))))))))))
          refine tCase 24 rfl (fun g24 => ?_) (fun g24 => ?_)
          · refine tGo rfl rfl (tQ rfl (qMove rfl) (tGo rfl rfl (tQ rfl (qLe rfl rfl) (tGo rfl rfl (tQ rfl (qPickT rfl rfl) (tQ rfl (qPickF rfl rfl) (tQ rfl (qAssign rfl) (tEnd (xThen (cRet ?_))))))))))
            refine xRet1 _ Tryd.results164 rfl fun w' s' => ⟨congrArg Value.bool ?_, s'.toExt (Sub.refl _)⟩
            rw [Bool.eq_iff_iff]
            simp only [wordB, Bool.or_eq_true, Bool.and_eq_true, decide_eq_true_eq, beq_iff_eq]
            simp only [Go.V.dsl, reduceCtorEq] at *
            omega
          · refine tNo rfl rfl rfl rfl (tNo rfl rfl rfl rfl (tGo rfl rfl (tQ rfl (qPickF rfl rfl) (tQ rfl (qPickF rfl rfl) (tQ rfl (qAssign rfl) (tEnd (xThen (cRet ?_))))))))
            refine xRet1 _ Tryd.results164 rfl fun w' s' => ⟨congrArg Value.bool ?_, s'.toExt (Sub.refl _)⟩
            rw [Bool.eq_iff_iff]
            simp only [wordB, Bool.or_eq_true, Bool.and_eq_true, decide_eq_true_eq, beq_iff_eq]
            simp only [Go.V.dsl, reduceCtorEq] at *
            omega
    · refine tNo rfl rfl rfl rfl (tNo rfl rfl rfl rfl (tGo rfl rfl (tQ rfl (qPickF rfl rfl) (tQ rfl (qPickF rfl rfl) (tQ rfl (qMove rfl) (tGo rfl rfl (tQ rfl (qMove rfl) (tGo rfl rfl (tQ rfl (qGe rfl rfl) (tGo rfl rfl (tQ rfl (qMove rfl) ?_)))))))))))
      refine tCase 16 rfl (fun g16 => ?_) (fun g16 => ?_)
      · refine tGo rfl rfl (tQ rfl (qMove rfl) (tGo rfl rfl (tQ rfl (qLe rfl rfl) (tGo rfl rfl (tQ rfl (qPickT rfl rfl) (tQ rfl (qPickF rfl rfl) (tQ rfl (qMove rfl) ?_)))))))
        refine tCase 21 rfl (fun g21 => ?_) (fun g21 => ?_)
        · refine tNo rfl rfl rfl rfl (tNo rfl rfl rfl rfl (tNo rfl rfl rfl rfl (tNoU rfl rfl rfl (tNoU rfl rfl rfl (tNo rfl rfl rfl rfl (tQ rfl (qPickT rfl rfl) (tQ rfl (qAssign rfl) (tEnd (xThen (cRet ?_))))))))))
          refine xRet1 _ Tryd.results164 rfl fun w' s' => ⟨congrArg Value.bool ?_, s'.toExt (Sub.refl _)⟩
          rw [Bool.eq_iff_iff]
          simp only [wordB, Bool.or_eq_true, Bool.and_eq_true, decide_eq_true_eq, beq_iff_eq]
          simp only [Go.V.dsl, reduceCtorEq] at *
          omega
        · refine tGo rfl rfl (tQ rfl (qMove rfl) (tGo rfl rfl (tQ rfl (qGe rfl rfl) (tGo rfl rfl (tQ rfl (qMove rfl) ?_)))))
          refine tCase 24 rfl (fun g24 => ?_) (fun g24 => ?_)
          · refine tGo rfl rfl (tQ rfl (qMove rfl) (tGo rfl rfl (tQ rfl (qLe rfl rfl) (tGo rfl rfl (tQ rfl (qPickT rfl rfl) (tQ rfl (qPickF rfl rfl) (tQ rfl (qAssign rfl) (tEnd (xThen (cRet ?_))))))))))
            refine xRet1 _ Tryd.results164 rfl fun w' s' => ⟨congrArg Value.bool ?_, s'.toExt (Sub.refl _)⟩
            rw [Bool.eq_iff_iff]
            simp only [wordB, Bool.or_eq_true, Bool.and_eq_true, decide_eq_true_eq, beq_iff_eq]
            simp only [Go.V.dsl, reduceCtorEq] at *
            omega
          · refine tNo rfl rfl rfl rfl (tNo rfl rfl rfl rfl (tGo rfl rfl (tQ rfl (qPickF rfl rfl) (tQ rfl (qPickF rfl rfl) (tQ rfl (qAssign rfl) (tEnd (xThen (cRet ?_))))))))
            refine xRet1 _ Tryd.results164 rfl fun w' s' => ⟨congrArg Value.bool ?_, s'.toExt (Sub.refl _)⟩
            rw [Bool.eq_iff_iff]
            simp only [wordB, Bool.or_eq_true, Bool.and_eq_true, decide_eq_true_eq, beq_iff_eq]
            simp only [Go.V.dsl, reduceCtorEq] at *
            omega
      · refine tNo rfl rfl rfl rfl (tNo rfl rfl rfl rfl (tGo rfl rfl (tQ rfl (qPickF rfl rfl) (tQ rfl (qPickF rfl rfl) (tQ rfl (qMove rfl) (tGo rfl rfl (tQ rfl (qMove rfl) (tGo rfl rfl (tQ rfl (qGe rfl rfl) (tGo rfl rfl (tQ rfl (qMove rfl) ?_)))))))))))
        refine tCase 24 rfl (fun g24 => ?_) (fun g24 => ?_)
        · refine tGo rfl rfl (tQ rfl (qMove rfl) (tGo rfl rfl (tQ rfl (qLe rfl rfl) (tGo rfl rfl (tQ rfl (qPickT rfl rfl) (tQ rfl (qPickF rfl rfl) (tQ rfl (qAssign rfl) (tEnd (xThen (cRet ?_))))))))))
          refine xRet1 _ Tryd.results164 rfl fun w' s' => ⟨congrArg Value.bool ?_, s'.toExt (Sub.refl _)⟩
          rw [Bool.eq_iff_iff]
          simp only [wordB, Bool.or_eq_true, Bool.and_eq_true, decide_eq_true_eq, beq_iff_eq]
          simp only [Go.V.dsl, reduceCtorEq] at *
          omega
        · refine tNo rfl rfl rfl rfl (tNo rfl rfl rfl rfl (tGo rfl rfl (tQ rfl (qPickF rfl rfl) (tQ rfl (qPickF rfl rfl) (tQ rfl (qAssign rfl) (tEnd (xThen (cRet ?_))))))))
          refine xRet1 _ Tryd.results164 rfl fun w' s' => ⟨congrArg Value.bool ?_, s'.toExt (Sub.refl _)⟩
          rw [Bool.eq_iff_iff]
          simp only [wordB, Bool.or_eq_true, Bool.and_eq_true, decide_eq_true_eq, beq_iff_eq]
          simp only [Go.V.dsl, reduceCtorEq] at *
          omega

theorem isWord12 {w : World} {c : Nat} (hc : c < 256) : Calls Tryd.prog 172 [.int .i32 c].toArray w (fun e w' => e = .returned (.bool (wordB c)) ∧ Ext w w') := by
  refine enter' 29 Tryd.func172 Tryd.ntmps172 rfl rfl (cSeq (cReg (tQ rfl (qAssign rfl) (tEnd (xThen (cSeq (cReg (tQ rfl (qMove rfl) (tQ rfl (qGe rfl rfl) (tQ rfl (qMove rfl) ?_))))))))))
  refine tCase 5 rfl (fun g5 => ?_) (fun g5 => ?_)
  · refine tGo rfl rfl (tQ rfl (qMove rfl) (tGo rfl rfl (tQ rfl (qLe rfl rfl) (tQ rfl (qPickT rfl rfl) (tQ rfl (qMove rfl) ?_)))))
    refine tCase 9 rfl (fun g9 => ?_) (fun g9 => ?_)
    · refine tNo rfl rfl rfl rfl (tNo rfl rfl rfl rfl (tNo rfl rfl rfl rfl (tNoU rfl rfl rfl (tNoU rfl rfl rfl (tNo rfl rfl rfl rfl (tQ rfl (qPickT rfl rfl) (tQ rfl (qMove rfl) (tNo rfl rfl rfl rfl (tNo rfl rfl rfl rfl (tNo rfl rfl rfl rfl (tNoU rfl rfl rfl ?_)))))))))))
      refine tNoU rfl rfl rfl (tNo rfl rfl rfl rfl (tQ rfl (qPickT rfl rfl) (tQ rfl (qMove rfl) (tNo rfl rfl rfl rfl (tNo rfl rfl rfl rfl (tQ rfl (qPickT rfl rfl) (tQ rfl (qAssign rfl) (tEnd (xThen (cRet ?_))))))))))
      refine xRet1 _ Tryd.results172 rfl fun w' s' => ⟨congrArg Value.bool ?_, s'.toExt (Sub.refl _)⟩
      rw [Bool.eq_iff_iff]
      simp only [wordB, Bool.or_eq_true, Bool.and_eq_true, decide_eq_true_eq, beq_iff_eq]
      simp only [Go.V.dsl, reduceCtorEq] at *
      omega
    · refine tGo rfl rfl (tQ rfl (qMove rfl) (tGo rfl rfl (tQ rfl (qGe rfl rfl) (tGo rfl rfl (tQ rfl (qMove rfl) ?_)))))
      refine tCase 12 rfl (fun g12 => ?_) (fun g12 => ?_)
      · refine tGo rfl rfl (tQ rfl (qMove rfl) (tGo rfl rfl (tQ rfl (qLe rfl rfl) (tGo rfl rfl (tQ rfl (qPickT rfl rfl) (tQ rfl (qPickF rfl rfl) (tQ rfl (qMove rfl) ?_)))))))
        refine tCase 17 rfl (fun g17 => ?_) (fun g17 => ?_)
        · refine tNo rfl rfl rfl rfl (tNo rfl rfl rfl rfl (tNo rfl rfl rfl rfl (tNoU rfl rfl rfl (tNoU rfl rfl rfl (tNo rfl rfl rfl rfl (tQ rfl (qPickT rfl rfl) (tQ rfl (qMove rfl) (tNo rfl rfl rfl rfl (tNo rfl rfl rfl rfl (tQ rfl (qPickT rfl rfl) (tQ rfl (qAssign rfl) ?_)))))))))))
          refine tEnd (xThen (cRet ?_))
          refine xRet1 _ Tryd.results172 rfl fun w' s' => ⟨congrArg Value.bool ?_, s'.toExt (Sub.refl _)⟩
          rw [Bool.eq_iff_iff]
          simp only [wordB, Bool.or_eq_true, Bool.and_eq_true, decide_eq_true_eq, beq_iff_eq]
          simp only [Go.V.dsl, reduceCtorEq] at *
          omega
        · refine tGo rfl rfl (tQ rfl (qMove rfl) (tGo rfl rfl (tQ rfl (qGe rfl rfl) (tGo rfl rfl (tQ rfl (qMove rfl) ?_)))))
          refine tCase 20 rfl (fun g20 => ?_) (fun g20 => ?_)
          · refine tGo rfl rfl (tQ rfl (qMove rfl) (tGo rfl rfl (tQ rfl (qLe rfl rfl) (tGo rfl rfl (tQ rfl (qPickT rfl rfl) (tQ rfl (qPickF rfl rfl) (tQ rfl (qMove rfl) ?_)))))))
            refine tCase 25 rfl (fun g25 => ?_) (fun g25 => ?_)
            · refine tNo rfl rfl rfl rfl (tNo rfl rfl rfl rfl (tQ rfl (qPickT rfl rfl) (tQ rfl (qAssign rfl) (tEnd (xThen (cRet ?_))))))
              refine xRet1 _ Tryd.results172 rfl fun w' s' => ⟨congrArg Value.bool ?_, s'.toExt (Sub.refl _)⟩
              rw [Bool.eq_iff_iff]
              simp only [wordB, Bool.or_eq_true, Bool.and_eq_true, decide_eq_true_eq, beq_iff_eq]
              simp only [Go.V.dsl, reduceCtorEq] at *
              omega
            · refine tGo rfl rfl (tQ rfl (qMove rfl) (tGo rfl rfl (tQ rfl (qEq rfl rfl) (tQ rfl (qPickF rfl rfl) (tQ rfl (qAssign rfl) (tEnd (xThen (cRet ?_))))))))
              refine xRet1 _ Tryd.results172 rfl fun w' s' => ⟨congrArg Value.bool ?_, s'.toExt (Sub.refl _)⟩
              rw [Bool.eq_iff_iff]
              simp only [wordB, Bool.or_eq_true, Bool.and_eq_true, decide_eq_true_eq, beq_iff_eq]
              simp only [Go.V.dsl, reduceCtorEq] at *
              omega
          · refine tNo rfl rfl rfl rfl (tNo rfl rfl rfl rfl (tGo rfl rfl (tQ rfl (qPickF rfl rfl) (tQ rfl (qPickF rfl rfl) (tQ rfl (qMove rfl) (tGo rfl rfl (tQ rfl (qMove rfl) (tGo rfl rfl (tQ rfl (qEq rfl rfl) (tQ rfl (qPickF rfl rfl) (tQ rfl (qAssign rfl) ?_)))))))))))
            refine tEnd (xThen (cRet ?_))
            refine xRet1 _ Tryd.results172 rfl fun w' s' => ⟨congrArg Value.bool ?_, s'.toExt (Sub.refl _)⟩
            rw [Bool.eq_iff_iff]
            simp only [wordB, Bool.or_eq_true, Bool.and_eq_true, decide_eq_true_eq, beq_iff_eq]
            simp only [Go.V.dsl, reduceCtorEq] at *
            omega
      · refine tNo rfl rfl rfl rfl (tNo rfl rfl rfl rfl (tGo rfl rfl (tQ rfl (qPickF rfl rfl) (tQ rfl (qPickF rfl rfl) (tQ rfl (qMove rfl) (tGo rfl rfl (tQ rfl (qMove rfl) (tGo rfl rfl (tQ rfl (qGe rfl rfl) (tGo rfl rfl (tQ rfl (qMove rfl) ?_)))))))))))
        refine tCase 20 rfl (fun g20 => ?_) (fun g20 => ?_)
        · refine tGo rfl rfl (tQ rfl (qMove rfl) (tGo rfl rfl (tQ rfl (qLe rfl rfl) (tGo rfl rfl (tQ rfl (qPickT rfl rfl) (tQ rfl (qPickF rfl rfl) (tQ rfl (qMove rfl) ?_)))))))
          refine tCase 25 rfl (fun g25 => ?_) (fun g25 => ?_)
          · refine tNo rfl rfl rfl rfl (tNo rfl rfl rfl rfl (tQ rfl (qPickT rfl rfl) (tQ rfl (qAssign rfl) (tEnd (xThen (cRet ?_))))))
            refine xRet1 _ Tryd.results172 rfl fun w' s' => ⟨congrArg Value.bool ?_, s'.toExt (Sub.refl _)⟩
            rw [Bool.eq_iff_iff]
            simp only [wordB, Bool.or_eq_true, Bool.and_eq_true, decide_eq_true_eq, beq_iff_eq]
            simp only [Go.V.dsl, reduceCtorEq] at *
            omega
          · refine tGo rfl rfl (tQ rfl (qMove rfl) (tGo rfl rfl (tQ rfl (qEq rfl rfl) (tQ rfl (qPickF rfl rfl) (tQ rfl (qAssign rfl) (tEnd (xThen (cRet ?_))))))))
            refine xRet1 _ Tryd.results172 rfl fun w' s' => ⟨congrArg Value.bool ?_, s'.toExt (Sub.refl _)⟩
            rw [Bool.eq_iff_iff]
            simp only [wordB, Bool.or_eq_true, Bool.and_eq_true, decide_eq_true_eq, beq_iff_eq]
            simp only [Go.V.dsl, reduceCtorEq] at *
            omega
        · refine tNo rfl rfl rfl rfl (tNo rfl rfl rfl rfl (tGo rfl rfl (tQ rfl (qPickF rfl rfl) (tQ rfl (qPickF rfl rfl) (tQ rfl (qMove rfl) (tGo rfl rfl (tQ rfl (qMove rfl) (tGo rfl rfl (tQ rfl (qEq rfl rfl) (tQ rfl (qPickF rfl rfl) (tQ rfl (qAssign rfl) ?_)))))))))))
          refine tEnd (xThen (cRet ?_))
          refine xRet1 _ Tryd.results172 rfl fun w' s' => ⟨congrArg Value.bool ?_, s'.toExt (Sub.refl _)⟩
          rw [Bool.eq_iff_iff]
          simp only [wordB, Bool.or_eq_true, Bool.and_eq_true, decide_eq_true_eq, beq_iff_eq]
          simp only [Go.V.dsl, reduceCtorEq] at *
          omega
  · refine tNo rfl rfl rfl rfl (tNo rfl rfl rfl rfl (tQ rfl (qPickF rfl rfl) (tQ rfl (qMove rfl) (tGo rfl rfl (tQ rfl (qMove rfl) (tGo rfl rfl (tQ rfl (qGe rfl rfl) (tGo rfl rfl (tQ rfl (qMove rfl) ?_)))))))))
    refine tCase 12 rfl (fun g12 => ?_) (fun g12 => ?_)
    · refine tGo rfl rfl (tQ rfl (qMove rfl) (tGo rfl rfl (tQ rfl (qLe rfl rfl) (tGo rfl rfl (tQ rfl (qPickT rfl rfl) (tQ rfl (qPickF rfl rfl) (tQ rfl (qMove rfl) ?_)))))))
      refine tCase 17 rfl (fun g17 => ?_) (fun g17 => ?_)
      · refine tNo rfl rfl rfl rfl (tNo rfl rfl rfl rfl (tNo rfl rfl rfl rfl (tNoU rfl rfl rfl (tNoU rfl rfl rfl (tNo rfl rfl rfl rfl (tQ rfl (qPickT rfl rfl) (tQ rfl (qMove rfl) (tNo rfl rfl rfl rfl (tNo rfl rfl rfl rfl (tQ rfl (qPickT rfl rfl) (tQ rfl (qAssign rfl) ?_)))))))))))
        refine tEnd (xThen (cRet ?_))
        refine xRet1 _ Tryd.results172 rfl fun w' s' => ⟨congrArg Value.bool ?_, s'.toExt (Sub.refl _)⟩
        rw [Bool.eq_iff_iff]
        simp only [wordB, Bool.or_eq_true, Bool.and_eq_true, decide_eq_true_eq, beq_iff_eq]
        simp only [Go.V.dsl, reduceCtorEq] at *
        omega
      · refine tGo rfl rfl (tQ rfl (qMove rfl) (tGo rfl rfl (tQ rfl (qGe rfl rfl) (tGo rfl rfl (tQ rfl (qMove rfl) ?_)))))
        refine tCase 20 rfl (fun g20 => ?_) (fun g20 => ?_)
        · refine tGo rfl rfl (tQ rfl (qMove rfl) (tGo rfl rfl (tQ rfl (qLe rfl rfl) (tGo rfl rfl (tQ rfl (qPickT rfl rfl) (tQ rfl (qPickF rfl rfl) (tQ rfl (qMove rfl) ?_)))))))
          refine tCase 25 rfl (fun g25 => ?_) (fun g25 => ?_)
          · refine tNo rfl rfl rfl rfl (tNo rfl rfl rfl rfl (tQ rfl (qPickT rfl rfl) (tQ rfl (qAssign rfl) (tEnd (xThen (cRet ?_))))))
            refine xRet1 _ Tryd.results172 rfl fun w' s' => ⟨congrArg Value.bool ?_, s'.toExt (Sub.refl _)⟩
            rw [Bool.eq_iff_iff]
            simp only [wordB, Bool.or_eq_true, Bool.and_eq_true, decide_eq_true_eq, beq_iff_eq]
            simp only [Go.V.dsl, reduceCtorEq] at *
            omega
          · refine tGo rfl rfl (tQ rfl (qMove rfl) (tGo rfl rfl (tQ rfl (qEq rfl rfl) (tQ rfl (qPickF rfl rfl) (tQ rfl (qAssign rfl) (tEnd (xThen (cRet ?_))))))))
            refine xRet1 _ Tryd.results172 rfl fun w' s' => ⟨congrArg Value.bool ?_, s'.toExt (Sub.refl _)⟩
            rw [Bool.eq_iff_iff]
            simp only [wordB, Bool.or_eq_true, Bool.and_eq_true, decide_eq_true_eq, beq_iff_eq]
            simp only [Go.V.dsl, reduceCtorEq] at *
            omega
        · refine tNo rfl rfl rfl rfl (tNo rfl rfl rfl rfl (tGo rfl rfl (tQ rfl (qPickF rfl rfl) (tQ rfl (qPickF rfl rfl) (tQ rfl (qMove rfl) (tGo rfl rfl (tQ rfl (qMove rfl) (tGo rfl rfl (tQ rfl (qEq rfl rfl) (tQ rfl (qPickF rfl rfl) (tQ rfl (qAssign rfl) ?_)))))))))))
          refine tEnd (xThen (cRet ?_))
          refine xRet1 _ Tryd.results172 rfl fun w' s' => ⟨congrArg Value.bool ?_, s'.toExt (Sub.refl _)⟩
          rw [Bool.eq_iff_iff]
          simp only [wordB, Bool.or_eq_true, Bool.and_eq_true, decide_eq_true_eq, beq_iff_eq]
          simp only [Go.V.dsl, reduceCtorEq] at *
          omega
    · refine tNo rfl rfl rfl rfl (tNo rfl rfl rfl rfl (tGo rfl rfl (tQ rfl (qPickF rfl rfl) (tQ rfl (qPickF rfl rfl) (tQ rfl (qMove rfl) (tGo rfl rfl (tQ rfl (qMove rfl) (tGo rfl rfl (tQ rfl (qGe rfl rfl) (tGo rfl rfl (tQ rfl (qMove rfl) ?_)))))))))))
      refine tCase 20 rfl (fun g20 => ?_) (fun g20 => ?_)
      · refine tGo rfl rfl (tQ rfl (qMove rfl) (tGo rfl rfl (tQ rfl (qLe rfl rfl) (tGo rfl rfl (tQ rfl (qPickT rfl rfl) (tQ rfl (qPickF rfl rfl) (tQ rfl (qMove rfl) ?_)))))))
        refine tCase 25 rfl (fun g25 => ?_) (fun g25 => ?_)
        · refine tNo rfl rfl rfl rfl (tNo rfl rfl rfl rfl (tQ rfl (qPickT rfl rfl) (tQ rfl (qAssign rfl) (tEnd (xThen (cRet ?_))))))
          refine xRet1 _ Tryd.results172 rfl fun w' s' => ⟨congrArg Value.bool ?_, s'.toExt (Sub.refl _)⟩
          rw [Bool.eq_iff_iff]
          simp only [wordB, Bool.or_eq_true, Bool.and_eq_true, decide_eq_true_eq, beq_iff_eq]
          simp only [Go.V.dsl, reduceCtorEq] at *
          omega
        · refine tGo rfl rfl (tQ rfl (qMove rfl) (tGo rfl rfl (tQ rfl (qEq rfl rfl) (tQ rfl (qPickF rfl rfl) (tQ rfl (qAssign rfl) (tEnd (xThen (cRet ?_))))))))
          refine xRet1 _ Tryd.results172 rfl fun w' s' => ⟨congrArg Value.bool ?_, s'.toExt (Sub.refl _)⟩
          rw [Bool.eq_iff_iff]
          simp only [wordB, Bool.or_eq_true, Bool.and_eq_true, decide_eq_true_eq, beq_iff_eq]
          simp only [Go.V.dsl, reduceCtorEq] at *
          omega
      · refine tNo rfl rfl rfl rfl (tNo rfl rfl rfl rfl (tGo rfl rfl (tQ rfl (qPickF rfl rfl) (tQ rfl (qPickF rfl rfl) (tQ rfl (qMove rfl) (tGo rfl rfl (tQ rfl (qMove rfl) (tGo rfl rfl (tQ rfl (qEq rfl rfl) (tQ rfl (qPickF rfl rfl) (tQ rfl (qAssign rfl) ?_)))))))))))
        refine tEnd (xThen (cRet ?_))
        refine xRet1 _ Tryd.results172 rfl fun w' s' => ⟨congrArg Value.bool ?_, s'.toExt (Sub.refl _)⟩
        rw [Bool.eq_iff_iff]
        simp only [wordB, Bool.or_eq_true, Bool.and_eq_true, decide_eq_true_eq, beq_iff_eq]
        simp only [Go.V.dsl, reduceCtorEq] at *
        omega

theorem wordP {w : World} {s : ByteArray} {p : Int} (hp : -10 ≤ p ∧ p ≤ 1000000010) (hs : s.size ≤ 1000000000) :
    Calls Tryd.prog 140 [.string s, .int .i64 p].toArray w (fun e w' => e = .returned (.bool (wordI s p)) ∧ Ext w w') := by
  refine enter' 20 Tryd.func140 Tryd.ntmps140 rfl rfl (cSeq (cReg (tQ rfl (qAssign rfl) (tEnd (xThen (cSeq (cReg (tQ rfl (qMove rfl) (tQ rfl (qGe rfl rfl) (tQ rfl (qMove rfl) ?_))))))))))
  refine tCase 7 rfl (fun g7 => ?_) (fun g7 => ?_)
  · refine tGo rfl rfl (tQ rfl (qMove rfl) (tGo rfl rfl (tQ rfl (qMove rfl) (tGo rfl rfl (tQ rfl (qLenStr Tryd.runUnderlying9 rfl rfl) (tGo rfl rfl (tQ rfl (qLt rfl rfl) (tQ rfl (qPickT rfl rfl) (tQ rfl (qMove rfl) ?_)))))))))
    refine tCase 13 rfl (fun g13 => ?_) (fun g13 => ?_)
    · have hin : 0 ≤ p ∧ p < s.size := by simp at g7 g13; omega
      have hb := B_lt s p.toNat
      refine tGo rfl rfl (tQ rfl (qMove rfl) (tGo rfl rfl (tQ rfl (qMove rfl) (tGo rfl rfl (tQ rfl (qIdxStrB Tryd.runUnderlying9 rfl rfl (j := p.toNat) (by omega) (by omega)) (tGo rfl rfl (tQ rfl (qConv Tryd.runUnderlying5 Tryd.runUnderlying21 rfl (w32 (by omega) (by omega))) (tGo rfl rfl (tCallQ rfl Tryd.call164 (first := []) (captured := []) rfl rfl (fun w' s' => isWordN hb) (tQ rfl (qPickT rfl rfl) (tQ rfl (qAssign rfl) ?_)))))))))))
      refine tEnd (xThen (cRet ?_))
      refine xRet1 _ Tryd.results140 rfl fun w' s' => ⟨congrArg Value.bool ?_, s'.toExt (Sub.refl _)⟩
      unfold wordI
      first | (rw [decide_eq_true hin]; rfl) | (rw [decide_eq_false (by simp at *; omega)]; rfl)
    · refine tNo rfl rfl rfl rfl (tNo rfl rfl rfl rfl (tNo rfl rfl rfl rfl (tNo rfl rfl rfl rfl (tNo rfl rfl rfl rfl (tQ rfl (qPickF rfl rfl) (tQ rfl (qAssign rfl) (tEnd (xThen (cRet ?_)))))))))
      refine xRet1 _ Tryd.results140 rfl fun w' s' => ⟨congrArg Value.bool ?_, s'.toExt (Sub.refl _)⟩
      unfold wordI
      first | (rw [decide_eq_true hin]; rfl) | (rw [decide_eq_false (by simp at *; omega)]; rfl)
  · refine tNo rfl rfl rfl rfl (tNo rfl rfl rfl rfl (tNo rfl rfl rfl rfl (tNo rfl rfl rfl rfl (tQ rfl (qPickF rfl rfl) (tQ rfl (qMove rfl) (tNo rfl rfl rfl rfl (tNo rfl rfl rfl rfl (tNo rfl rfl rfl rfl (tNo rfl rfl rfl rfl (tNo rfl rfl rfl rfl (tQ rfl (qPickF rfl rfl) ?_)))))))))))
    refine tQ rfl (qAssign rfl) (tEnd (xThen (cRet ?_)))
    refine xRet1 _ Tryd.results140 rfl fun w' s' => ⟨congrArg Value.bool ?_, s'.toExt (Sub.refl _)⟩
    unfold wordI
    first | (rw [decide_eq_true hin]; rfl) | (rw [decide_eq_false (by simp at *; omega)]; rfl)

theorem word12 {w : World} {s : ByteArray} {p : Nat} (hple : p ≤ s.size) (hs : s.size ≤ 1000000000) :
    Calls Tryd.prog 153 [.string s, .int .i64 p].toArray w (fun e w' => e = .returned (.bool (wordAt s p)) ∧ Ext w w') := by
  have hb := B_lt s p
  have hb' := B_lt s (p - 1)
  refine enter' 31 Tryd.func153 Tryd.ntmps153 rfl rfl (cSeq (cReg (tQ rfl (qAssign rfl) (tEnd (xThen (cSeq (cReg (tQ rfl (qMove rfl) (tQ rfl (qGt rfl rfl) (tQ rfl (qMove rfl) ?_))))))))))
  refine tCase 9 rfl (fun g9 => ?_) (fun g9 => ?_)
  · simp at g9
    have g9' : decide (0 < p) = true := decide_eq_true g9
    refine tGo rfl rfl (tQ rfl (qMove rfl) (tGo rfl rfl (tQ rfl (qMove rfl) (tGo rfl rfl (tQ rfl (qSub rfl rfl (w64 (by omega) (by omega))) (tGo rfl rfl (tQ rfl (qIdxStrB Tryd.runUnderlying9 rfl rfl (j := p - 1) (by omega) (by omega)) (tGo rfl rfl (tQ rfl (qConv Tryd.runUnderlying5 Tryd.runUnderlying21 rfl (w32 (by omega) (by omega))) (tGo rfl rfl (tCallQ rfl Tryd.call172 (first := []) (captured := []) rfl rfl (fun w' s' => isWord12 (by assumption)) ?_)))))))))))
    refine tQ rfl (qPickT rfl rfl) (tQ rfl (qAssign rfl) (tEnd (xThen (cSeq (cReg (tQ rfl (qMove rfl) (tQ rfl (qMove rfl) (tQ rfl (qLenStr Tryd.runUnderlying9 rfl rfl) (tQ rfl (qLt rfl rfl) (tQ rfl (qMove rfl) ?_))))))))))
    refine tCase 21 rfl (fun g21 => ?_) (fun g21 => ?_)
    · simp at g21
      have g21' : decide (p < s.size) = true := decide_eq_true g21
      refine tGo rfl rfl (tQ rfl (qMove rfl) (tGo rfl rfl (tQ rfl (qMove rfl) (tGo rfl rfl (tQ rfl (qIdxStrB Tryd.runUnderlying9 rfl rfl (j := p) (by omega) (by omega)) (tGo rfl rfl (tQ rfl (qConv Tryd.runUnderlying5 Tryd.runUnderlying21 rfl (w32 (by omega) (by omega))) (tGo rfl rfl (tCallQ rfl Tryd.call172 (first := []) (captured := []) rfl rfl (fun w' s' => isWord12 (by assumption)) (tQ rfl (qPickT rfl rfl) (tQ rfl (qAssign rfl) ?_)))))))))))
      refine tEnd (xThen (cSeq (cReg (tQ rfl (qMove rfl) (tQ rfl (qMove rfl) (tQ rfl (qBoolNe Tryd.runUnderlying4 rfl rfl) (tQ rfl (qAssign rfl) (tEnd (xThen (cRet ?_))))))))))
      refine xRet1 _ Tryd.results153 rfl fun w' s' => ⟨congrArg Value.bool ?_, s'.toExt (Sub.refl _)⟩
      unfold wordAt
      rw [g9', g21']
      rfl
    · simp at g21
      have g21' : decide (p < s.size) = false := decide_eq_false (by omega)
      refine tNo rfl rfl rfl rfl (tNo rfl rfl rfl rfl (tNo rfl rfl rfl rfl (tNo rfl rfl rfl rfl (tNo rfl rfl rfl rfl (tQ rfl (qPickF rfl rfl) (tQ rfl (qAssign rfl) (tEnd (xThen (cSeq (cReg (tQ rfl (qMove rfl) (tQ rfl (qMove rfl) (tQ rfl (qBoolNe Tryd.runUnderlying4 rfl rfl) (tQ rfl (qAssign rfl) ?_))))))))))))))
      refine tEnd (xThen (cRet ?_))
      refine xRet1 _ Tryd.results153 rfl fun w' s' => ⟨congrArg Value.bool ?_, s'.toExt (Sub.refl _)⟩
      unfold wordAt
      rw [g9', g21']
      rfl
  · simp at g9
    have g9' : decide (0 < p) = false := decide_eq_false (by omega)
    refine tNo rfl rfl rfl rfl (tNo rfl rfl rfl rfl (tNo rfl rfl rfl rfl (tNo rfl rfl rfl rfl (tNo rfl rfl rfl rfl (tNo rfl rfl rfl rfl (tQ rfl (qPickF rfl rfl) (tQ rfl (qAssign rfl) (tEnd (xThen (cSeq (cReg (tQ rfl (qMove rfl) (tQ rfl (qMove rfl) (tQ rfl (qLenStr Tryd.runUnderlying9 rfl rfl) ?_))))))))))))))
    refine tQ rfl (qLt rfl rfl) (tQ rfl (qMove rfl) ?_)
    refine tCase 21 rfl (fun g21 => ?_) (fun g21 => ?_)
    · simp at g21
      have g21' : decide (p < s.size) = true := decide_eq_true g21
      refine tGo rfl rfl (tQ rfl (qMove rfl) (tGo rfl rfl (tQ rfl (qMove rfl) (tGo rfl rfl (tQ rfl (qIdxStrB Tryd.runUnderlying9 rfl rfl (j := p) (by omega) (by omega)) (tGo rfl rfl (tQ rfl (qConv Tryd.runUnderlying5 Tryd.runUnderlying21 rfl (w32 (by omega) (by omega))) (tGo rfl rfl (tCallQ rfl Tryd.call172 (first := []) (captured := []) rfl rfl (fun w' s' => isWord12 (by assumption)) (tQ rfl (qPickT rfl rfl) (tQ rfl (qAssign rfl) ?_)))))))))))
      refine tEnd (xThen (cSeq (cReg (tQ rfl (qMove rfl) (tQ rfl (qMove rfl) (tQ rfl (qBoolNe Tryd.runUnderlying4 rfl rfl) (tQ rfl (qAssign rfl) (tEnd (xThen (cRet ?_))))))))))
      refine xRet1 _ Tryd.results153 rfl fun w' s' => ⟨congrArg Value.bool ?_, s'.toExt (Sub.refl _)⟩
      unfold wordAt
      rw [g9', g21']
      rfl
    · simp at g21
      have g21' : decide (p < s.size) = false := decide_eq_false (by omega)
      refine tNo rfl rfl rfl rfl (tNo rfl rfl rfl rfl (tNo rfl rfl rfl rfl (tNo rfl rfl rfl rfl (tNo rfl rfl rfl rfl (tQ rfl (qPickF rfl rfl) (tQ rfl (qAssign rfl) (tEnd (xThen (cSeq (cReg (tQ rfl (qMove rfl) (tQ rfl (qMove rfl) (tQ rfl (qBoolNe Tryd.runUnderlying4 rfl rfl) (tQ rfl (qAssign rfl) ?_))))))))))))))
      refine tEnd (xThen (cRet ?_))
      refine xRet1 _ Tryd.results153 rfl fun w' s' => ⟨congrArg Value.bool ?_, s'.toExt (Sub.refl _)⟩
      unfold wordAt
      rw [g9', g21']
      rfl

theorem cmp_ {w : World} {lo hi u : Int} :
    Calls Tryd.prog 162 [.agg #[.int .i32 lo, .int .i32 hi], .int .i32 u].toArray w (fun e w' => e = .returned (.int .i64 (if hi < u then -1 else if u < lo then 1 else 0)) ∧ Ext w w') := by
  refine enter' 15 Tryd.func162 Tryd.ntmps162 rfl rfl (cSeq (cReg (tBox rfl rfl rfl (cs := [_, _]) fun b2 => (tQ rfl (qAssign rfl) (tEnd (xThen (cSeq (cBlock (cSeq (cReg (tQ rfl (qFieldAddr Tryd.runUnderlying54 rfl Tryd.sizeOf21 rfl rfl rfl) (tQ rfl (qLd1M 0 Tryd.isAgg21 rfl rfl rfl) (tQ rfl (qMove rfl) (tQ rfl (qLt rfl rfl) (tQ rfl (qAssign rfl) (tEnd (xThen ?_)))))))))))))))))
  refine cIf rfl (fun c5 => ?_) (fun c5 => ?_)
  · refine cSeq (cReg (tQ rfl (qAssign rfl) (tEnd (xThen (cRet (xRetBlock (xRetThen ?_)))))))
    refine xRet1 _ Tryd.results162 rfl fun w' s' => ⟨?_, s'.toExt (Sub.refl _)⟩
    rw [if_pos (by simp at *; omega)]
  · refine cSeq (cReg (tQ rfl (qFieldAddr Tryd.runUnderlying54 rfl Tryd.sizeOf21 rfl rfl rfl) (tQ rfl (qLd1M 0 Tryd.isAgg21 rfl rfl rfl) (tQ rfl (qMove rfl) (tQ rfl (qGt rfl rfl) (tQ rfl (qAssign rfl) (tEnd (xThen ?_))))))))
    refine cIf rfl (fun c10 => ?_) (fun c10 => ?_)
    · refine cSeq (cReg (tQ rfl (qAssign rfl) (tEnd (xThen (cRet (xRetBlock (xRetThen ?_)))))))
      refine xRet1 _ Tryd.results162 rfl fun w' s' => ⟨?_, s'.toExt (Sub.refl _)⟩
      rw [if_neg (by simp at *; omega), if_pos (by simp at *; omega)]
    · refine cSkip (xBlock (xThen (cSeq (cReg (tQ rfl (qAssign rfl) (tEnd (xThen (cRet ?_))))))))
      refine xRet1 _ Tryd.results162 rfl fun w' s' => ⟨?_, s'.toExt (Sub.refl _)⟩
      rw [if_neg (by simp at *; omega), if_neg (by simp at *; omega)]

theorem search_ {F : Hp} {w : World} {A : Option Addr} {n c : Nat} {rs : List Rng} {u : Int} (hF : Sub F (hp w)) (hx : RdR F A n rs) (hn : n ≤ 1000000000) (hok : setE rs = 0) :
    Calls Tryd.prog 161 [.slice A n c, .int .i32 u, .func (.func 162) #[] #[]].toArray w (fun e w' => ∃ z : Int, e = .returned (.tuple #[.int .i64 z, .bool (decide (hasU rs u))]) ∧ Ext w w') := by
  replace hx := hx.mono hF
  have hxl := hx.len
  have hso := sets_sorted hok
  have hst := setE_ok' hok
  refine Calls.mono (enter (R := fun v w' => ∃ z : Int, v = .tuple #[.int .i64 z, .bool (decide (hasU rs u))] ∧ Ext w w') 49 Tryd.func161 Tryd.ntmps161 rfl rfl (WS.start w) ?_) (fun e w' ⟨v, h1, z, h2, h3⟩ => ⟨z, h2 ▸ h1, h3⟩)
  refine cSeq (cReg (tQ rfl (qAssign rfl) (tQ rfl (qAssign rfl) (tEnd (xThen (cSeq (cReg (tQ rfl (qMove rfl) (tQ rfl (qLen Tryd.runUnderlying42 rfl rfl) (tQ rfl (qAssign rfl) (tEnd (xThen (cSeq (cReg (tQ rfl (qMove rfl) (tQ rfl (qAssign rfl) (tQ rfl (qAssign rfl) (tEnd (xThen (cSeq (cBlock ?_)))))))))))))))))))))
  refine cLoop (⟨fun ⟨i, j⟩ => [(0, .slice A n c), (1, .int .i32 u), (2, .func (.func 162) #[] #[]), (8, .int .i64 n), (9, .int .i64 i), (10, .int .i64 j)], fun ⟨i, j⟩ => hp w, fun ⟨i, j⟩ => [], fun ⟨i, j⟩ => i ≤ j ∧ j ≤ n ∧ (∀ k, k < i → (gR rs k).hi < u) ∧ (∀ k, j ≤ k → k < n → u ≤ (gR rs k).hi), fun ⟨i, j⟩ => j - i⟩ : LI (Nat × Nat)) (loopStart _ (0, n) ⟨Nat.zero_le _, Nat.le_refl _, fun k hk => by first | omega | (dsimp only at hk; omega), fun k hk hk2 => by first | omega | (dsimp only at hk; omega)⟩ (le_of ⟨rfl, rfl, rfl, rfl, rfl, rfl, trivial⟩) (fun _ s => s)) ?_
  rintro ⟨i, j⟩ ⟨hij, hjn, hlo, hhi⟩
  refine cSeq (cSeq (cReg (tQ rfl (qMove rfl) (tQ rfl (qMove rfl) (tQ rfl (qLt rfl rfl) (tEnd (xThen ?_)))))))
  refine cIf rfl (fun c17 => ?_) (fun c17 => ?_)
  · refine cSkip (xThen (cBlock (cSeq ?_)))
    have hlt : i < j := by simp at c17; omega
    refine cReg (tQ rfl (qMove rfl) (tQ rfl (qMove rfl) (tQ rfl (qAdd rfl rfl (w64 (by omega) (by omega))) (tQ rfl (qConv Tryd.runUnderlying3 Tryd.runUnderlying176 rfl (wu64 (by omega) (by omega))) (tQ rfl (qShr rfl rfl (by omega) (c := (((i + j) / 2 : Nat) : Int)) (half_ (i + j))) (tQ rfl (qConv Tryd.runUnderlying176 Tryd.runUnderlying3 rfl (w64 (by omega) (by omega))) (tQ rfl (qAssign rfl) (tEnd (xThen (cSeq ?_))))))))))
    have hmj : (i + j) / 2 < n := by omega
    obtain ⟨b, o, rfl, hN, -⟩ := hx.open_ hmj
    refine cReg (tQ rfl (qMove rfl) (tQ rfl (qMove rfl) (tQ rfl (qMove rfl) (tQ rfl (qIdxAddr Tryd.runUnderlying42 Tryd.sizeOf54 rfl rfl rfl (by omega)) (tQ rfl (qLdN Tryd.isAgg54 Tryd.sizeOf54 rfl (hN _ hmj)) (tQ rfl (qMove rfl) (tCallQ rfl Tryd.call162 rfl rfl (fun w' s' => cmp_) (tQ rfl (qLt rfl rfl) (tEnd (xThen ?_))))))))))
    refine cIf rfl (fun c31 => ?_) (fun c31 => ?_)
    · refine cReg (tQ rfl (qMove rfl) (tQ rfl (qAdd rfl rfl (w64 (by omega) (by omega))) (tQ rfl (qAssign rfl) (tEnd (xBlock ?_)))))
      refine xRound _ ((i + j) / 2 + 1, j) ?_ (by first | omega | (dsimp only; omega)) (le_of ⟨rfl, rfl, rfl, rfl, rfl, rfl, trivial⟩) (fun _ s => s)
      refine ⟨by first | omega | (dsimp only; omega), hjn, fun k hk => ?_, hhi⟩
      have hm : (gR rs ((i + j) / 2)).hi < u := by simp at c31; split at c31 <;> first | assumption | (exfalso; omega) | (split at c31 <;> exfalso <;> omega)
      try dsimp only at hk
      rcases Nat.lt_or_ge k ((i + j) / 2) with h | h
      · have a := hso _ k h (by omega)
        have b := (hst ((i + j) / 2) (by omega)).2.2.1
        omega
      · obtain rfl : k = (i + j) / 2 := by omega
        exact hm
    · refine cReg (tQ rfl (qMove rfl) (tQ rfl (qAssign rfl) (tEnd (xBlock ?_))))
      refine xRound _ (i, (i + j) / 2) ?_ (by first | omega | (dsimp only; omega)) (le_of ⟨rfl, rfl, rfl, rfl, rfl, rfl, trivial⟩) (fun _ s => s)
      refine ⟨by first | omega | (dsimp only; omega), by first | omega | (dsimp only; omega), hlo, fun k hk hk2 => ?_⟩
      have hm : u ≤ (gR rs ((i + j) / 2)).hi := by
        simp at c31
        split at c31
        · omega
        · omega
      try dsimp only at hk
      rcases Nat.lt_or_ge ((i + j) / 2) k with h | h
      · have a := hso k _ h (by omega)
        have b := (hst k (by omega)).2.2.1
        omega
      · obtain rfl : k = (i + j) / 2 := by omega
        exact hm
  · refine cExit (xExitThen (xExitThen (xExitBlock (xThen (cSeq (cReg (tQ rfl (qMove rfl) (tQ rfl (qMove rfl) (tQ rfl (qMove rfl) (tQ rfl (qLt rfl rfl) (tQ rfl (qMove rfl) ?_)))))))))))
    refine tCase 39 rfl (fun g39 => ?_) (fun g39 => ?_)
    · have hlt : i < n := by simp at g39; omega
      obtain ⟨b, o, rfl, hN, -⟩ := hx.open_ hlt
      refine tGo rfl rfl (tQ rfl (qMove rfl) (tGo rfl rfl (tQ rfl (qMove rfl) (tGo rfl rfl (tQ rfl (qMove rfl) (tGo rfl rfl (tQ rfl (qIdxAddr Tryd.runUnderlying42 Tryd.sizeOf54 rfl rfl rfl (by omega)) (tGo rfl rfl (tQ rfl (qLdN Tryd.isAgg54 Tryd.sizeOf54 rfl (hN _ hlt)) (tGo rfl rfl (tQ rfl (qMove rfl) ?_)))))))))))
      refine tGo rfl rfl (tCallQ rfl Tryd.call162 rfl rfl (fun w' s' => cmp_) (tGo rfl rfl (tQ rfl (qEq rfl rfl) (tQ rfl (qPickT rfl rfl) (tQ rfl (qAssign rfl) (tQ rfl (qAssign rfl) (tEnd (xThen (cRet ?_)))))))))
      refine xRet2 _ _ Tryd.results161 rfl rfl fun w' s' => ⟨_, congrArg (fun b => Value.tuple #[Value.int .i64 i, Value.bool b]) ?_, s'.toExt (Sub.refl _)⟩
      have hij' : i = j := by simp at c17; omega
      subst hij'
      rw [Bool.eq_iff_iff]
      simp only [decide_eq_true_eq]
      first
        | (have hge : ¬ i < n := by simp at g39; omega
           refine ⟨fun h => (by cases h), fun ⟨k, h1, h2, h3⟩ => ?_⟩
           have := hlo k (by omega); omega)
        | (constructor
           · intro h
             refine ⟨i, by omega, ?_⟩
             have a := hhi i (Nat.le_refl _) hlt
             simp at h
             split at h
             · omega
             · split at h
               · omega
               · omega
           · rintro ⟨k, h1, h2, h3⟩
             have hki : k = i := by
               rcases Nat.lt_trichotomy k i with h | h | h
               · have := hlo k h; omega
               · exact h
               · have a := hso k i h h1
                 have b := hhi i (Nat.le_refl _) hlt
                 omega
             subst hki
             rw [if_neg (by omega), if_neg (by omega)]
             rfl)
    · refine tNo rfl rfl rfl rfl (tNo rfl rfl rfl rfl (tNo rfl rfl rfl rfl (tNo rfl rfl rfl rfl (tNo rfl rfl rfl rfl (tNo rfl rfl rfl rfl (tNo rfl rfl rfl rfl (tNo rfl rfl rfl rfl (tQ rfl (qPickF rfl rfl) (tQ rfl (qAssign rfl) (tQ rfl (qAssign rfl) (tEnd (xThen (cRet ?_)))))))))))))
      refine xRet2 _ _ Tryd.results161 rfl rfl fun w' s' => ⟨_, congrArg (fun b => Value.tuple #[Value.int .i64 i, Value.bool b]) ?_, s'.toExt (Sub.refl _)⟩
      have hij' : i = j := by simp at c17; omega
      subst hij'
      rw [Bool.eq_iff_iff]
      simp only [decide_eq_true_eq]
      first
        | (have hge : ¬ i < n := by simp at g39; omega
           refine ⟨fun h => (by cases h), fun ⟨k, h1, h2, h3⟩ => ?_⟩
           have := hlo k (by omega); omega)
        | (constructor
           · intro h
             refine ⟨i, by omega, ?_⟩
             have a := hhi i (Nat.le_refl _) hlt
             simp at h
             split at h
             · omega
             · split at h
               · omega
               · omega
           · rintro ⟨k, h1, h2, h3⟩
             have hki : k = i := by
               rcases Nat.lt_trichotomy k i with h | h | h
               · have := hlo k h; omega
               · exact h
               · have a := hso k i h h1
                 have b := hhi i (Nat.le_refl _) hlt
                 omega
             subst hki
             rw [if_neg (by omega), if_neg (by omega)]
             rfl)

theorem hasS {F : Hp} {w : World} {A : Option Addr} {n c : Nat} {rs : List Rng} {u : Int} (hF : Sub F (hp w)) (hx : RdR F A n rs) (hn : n ≤ 1000000000) (hok : setE rs = 0) :
    Calls Tryd.prog 138 [.slice A n c, .int .i32 u].toArray w (fun e w' => e = .returned (.bool (decide (hasU rs u))) ∧ Ext w w') := by
  refine enter' 14 Tryd.func138 Tryd.ntmps138 rfl rfl (cSeq (cReg (tQ rfl (qAssign rfl) (tEnd (xThen (cSeq (cReg (tQ rfl (qMove rfl) (tQ rfl (qMove rfl) (tCallG rfl Tryd.call161 rfl rfl (Post := fun v F' M' => ∃ z : Int, v = .tuple #[.int .i64 z, .bool (decide (hasU rs u))] ∧ F' = hp w ∧ M' = []) (fun w' s => (search_ (hF.trans s.sub) hx hn hok).mono fun e w2 ⟨z, h1, h2⟩ => ⟨_, h1, hp w, [], ⟨z, rfl, rfl, rfl⟩, s.ext h2⟩) fun v F' M' hP => ?_))))))))))
  obtain ⟨z, rfl, rfl, rfl⟩ := hP
  refine tQ rfl (qMove rfl) (tQ rfl (qExtract rfl rfl) (tQ rfl (qExtract rfl rfl) (tQ rfl (qAssign rfl) (tQ rfl (qAssign rfl) (tEnd (xThen (cSeq (cReg (tQ rfl (qMove rfl) (tQ rfl (qAssign rfl) (tEnd (xThen (cRet ?_)))))))))))))
  refine xRet1 _ Tryd.results138 rfl fun w' s => ⟨rfl, s.toExt (Sub.refl _)⟩

theorem hasSE {F : Hp} {w : World} {A : Option Addr} {n c : Nat} {rs : List Rng} {u : Int} (hF : Sub F (hp w)) (hT : T F) (hx : RdR F A n rs) (hn : n ≤ 1000000000) (hok : setE rs = 0) :
    Calls Tryd.prog 104 [.slice A n c, .int .i32 u].toArray w (fun e w' => e = .returned (.tuple #[.bool (decide (hasU rs u)), .int .i64 0]) ∧ Ext w w') := by
  refine enter' 15 Tryd.func104 Tryd.ntmps104 rfl rfl (cSeq (cReg (tQ rfl (qAssign rfl) (tQ rfl (qAssign rfl) (tEnd (xThen (cSeq (cSeq (cReg (tQ rfl (qMove rfl) (tCallQ rfl Tryd.call137 (first := []) (captured := []) rfl rfl (fun w' s' => checkS (hF.trans s'.sub) hT hx hn) (tQ rfl (qAssign rfl) (tEnd (xThen (cSeq (cReg (tQ rfl (qMove rfl) (tQ rfl (qNe rfl rfl) (tEnd (xThen ?_))))))))))))))))))))
  refine cIf rfl (fun c10 => ?_) (fun c10 => ?_)
  · refine cSeq (cReg (tQ rfl (qMove rfl) (tQ rfl (qAssign rfl) (tQ rfl (qAssign rfl) (tEnd (xThen (cRet (xRetThen ?_))))))))
    exfalso; simp [hok] at c10
  · refine cSkip (xThen (cSeq (cReg (tQ rfl (qMove rfl) (tQ rfl (qMove rfl) (tCallQ rfl Tryd.call138 (first := []) (captured := []) rfl rfl (fun w' s' => hasS (hF.trans s'.sub) hx hn hok) (tQ rfl (qAssign rfl) (tQ rfl (qAssign rfl) (tEnd (xThen (cRet ?_)))))))))))
    refine xRet2 _ _ Tryd.results104 rfl rfl fun w' s => ⟨rfl, s.toExt (Sub.refl _)⟩

theorem has12 {F : Hp} {w : World} {A : Option Addr} {n c : Nat} {rs : List Rng} {u : Int} (hF : Sub F (hp w)) (hx : RdR F A n rs) (hn : n ≤ 1000000000) :
    Calls Tryd.prog 127 [.slice A n c, .int .i32 u].toArray w (fun e w' => e = .returned (.bool (decide (hasU rs u))) ∧ Ext w w') := by
  replace hx := hx.mono hF
  have hxl := hx.len
  refine enter' 28 Tryd.func127 Tryd.ntmps127 rfl rfl (cSeq (cReg (tQ rfl (qAssign rfl) (tEnd (xThen (cSeq (cSeq (cReg (tQ rfl (qAssign rfl) (tEnd (xThen (cBlock (cLoop (⟨fun (k : Nat) => [(0, .slice A n c), (1, .int .i32 u), (5, .int .i64 k)], fun (k : Nat) => hp w, fun (k : Nat) => [], fun (k : Nat) => k ≤ n ∧ ∀ j, j < k → ¬ ((gR rs j).lo ≤ u ∧ u ≤ (gR rs j).hi), fun (k : Nat) => n - k⟩ : LI (Nat)) (loopStart _ 0 ⟨by omega, fun j hj => by omega⟩ (le_of ⟨rfl, rfl, rfl, trivial⟩) (fun _ s => s)) ?_)))))))))))))
  rintro k ⟨hk, hno⟩
  refine cSeq (cSeq (cReg (tQ rfl (qMove rfl) (tQ rfl (qMove rfl) (tQ rfl (qLen Tryd.runUnderlying42 rfl rfl) (tQ rfl (qLt rfl rfl) (tEnd (xThen ?_))))))))
  refine cIf rfl (fun c9 => ?_) (fun c9 => ?_)
  · refine cSkip (xThen (cSeq (cBlock (cSeq ?_))))
    have hlt : k < n := by simp at c9; omega
    obtain ⟨b, o, rfl, hN, hlo, hhi, hwf⟩ := hx.open_ hlt
    refine cReg (tQ rfl (qMove rfl) (tQ rfl (qMove rfl) (tQ rfl (qMove rfl) (tQ rfl (qIdxAddr Tryd.runUnderlying42 Tryd.sizeOf54 rfl rfl rfl (by omega)) (tQ rfl (qFieldAddr Tryd.runUnderlying54 rfl Tryd.sizeOf21 rfl rfl rfl) (tQ rfl (qLd1 Tryd.isAgg21 rfl (hlo k hlt)) (tQ rfl (qGe rfl rfl) (tQ rfl (qMove rfl) ?_))))))))
    refine tCase 19 rfl (fun g19 => ?_) (fun g19 => ?_)
    · refine tGo rfl rfl (tQ rfl (qMove rfl) (tGo rfl rfl (tQ rfl (qMove rfl) (tGo rfl rfl (tQ rfl (qMove rfl) (tGo rfl rfl (tQ rfl (qIdxAddr Tryd.runUnderlying42 Tryd.sizeOf54 rfl rfl rfl (by omega)) (tGo rfl rfl (tQ rfl (qFieldAddr Tryd.runUnderlying54 rfl Tryd.sizeOf21 rfl rfl rfl) (tGo rfl rfl (tQ rfl (qLd1 Tryd.isAgg21 rfl (hhi k hlt)) ?_)))))))))))
      refine tGo rfl rfl (tQ rfl (qLe rfl rfl) (tQ rfl (qPickT rfl rfl) (tEnd (xThen ?_))))
      refine cIf rfl (fun c27 => ?_) (fun c27 => ?_)
      · refine cSeq (cReg (tQ rfl (qAssign rfl) (tEnd (xThen (cRet (xRetBlock (xRetThen (xRetThen (xRetBlock (xRetThen ?_))))))))))
        refine xRet1 _ Tryd.results127 rfl fun w' s' => ⟨congrArg Value.bool (Eq.symm (decide_eq_true ?_)), s'.toExt (Sub.refl _)⟩
        exact ⟨k, by omega, by simp at g19; omega, by simp at c27; omega⟩
      · refine cSkip (xBlock (xThen (cReg (tQ rfl (qMove rfl) (tQ rfl (qAdd rfl rfl (w64 (by omega) (by omega))) (tQ rfl (qAssign rfl) (tEnd ?_)))))))
        refine xRound _ (k + 1) ?_ (by dsimp only; omega) (le_of ⟨rfl, rfl, rfl, trivial⟩) (fun _ s => s)
        refine ⟨by omega, fun j hj => ?_⟩
        rcases Nat.lt_or_ge j k with h | h
        · exact hno j h
        · obtain rfl : j = k := by omega
          simp only [Go.V.dsl, reduceCtorEq] at *
          omega
    · refine tNo rfl rfl rfl rfl (tNo rfl rfl rfl rfl (tNo rfl rfl rfl rfl (tNo rfl rfl rfl rfl (tNo rfl rfl rfl rfl (tNo rfl rfl rfl rfl (tNo rfl rfl rfl rfl (tQ rfl (qPickF rfl rfl) (tEnd (xThen (cIfF rfl (cSkip (xBlock (xThen (cReg (tQ rfl (qMove rfl) ?_)))))))))))))))
      refine tQ rfl (qAdd rfl rfl (w64 (by omega) (by omega))) (tQ rfl (qAssign rfl) (tEnd ?_))
      refine xRound _ (k + 1) ?_ (by dsimp only; omega) (le_of ⟨rfl, rfl, rfl, trivial⟩) (fun _ s => s)
      refine ⟨by omega, fun j hj => ?_⟩
      rcases Nat.lt_or_ge j k with h | h
      · exact hno j h
      · obtain rfl : j = k := by omega
        simp only [Go.V.dsl, reduceCtorEq] at *
        omega
  · refine cExit (xExitThen (xExitThen (xExitBlock (xThen (cSeq (cReg (tQ rfl (qAssign rfl) (tEnd (xThen (cRet ?_))))))))))
    refine xRet1 _ Tryd.results127 rfl fun w' s' => ⟨congrArg Value.bool (Eq.symm (decide_eq_false ?_)), s'.toExt (Sub.refl _)⟩
    rintro ⟨j, h1, h2⟩
    exact hno j (by simp at c9; omega) h2

theorem holds12 {w : World} {s : ByteArray} {p : Nat} {n : Int} (hple : p ≤ s.size) (hs : s.size ≤ 1000000000) (hn : 1 ≤ n ∧ n ≤ 8) :
    Calls Tryd.prog 128 [.int .i64 n, .string s, .int .i64 p].toArray w (fun e w' => e = .returned (.bool (holds n s p)) ∧ Ext w w') := by
  have hb := B_lt s p
  refine enter' 73 Tryd.func128 Tryd.ntmps128 rfl rfl (cSeq (cReg (tQ rfl (qAssign rfl) (tEnd (xThen (cSeq (cSeq (cReg (tQ rfl (qMove rfl) (tEnd (xThen (cBlock (cSeq (cReg (tQ rfl (qEq rfl rfl) (tQ rfl (qAssign rfl) (tEnd (xThen ?_))))))))))))))))))
  refine cIf rfl (fun c11 => ?_) (fun c11 => ?_)
  · refine cSeq (cReg (tQ rfl (qMove rfl) (tQ rfl (qEq rfl rfl) (tQ rfl (qAssign rfl) (tEnd (xThen (cRet (xRetBlock (xRetThen ?_)))))))))
    refine xRet1 _ Tryd.results128 rfl fun w' s' => ⟨congrArg Value.bool ?_, s'.toExt (Sub.refl _)⟩
    have hn1 := hn.1
    have hn2 := hn.2
    clear hn
    simp at *
    first
      | (subst c11; rw [Bool.eq_iff_iff]; simp [holds]; done)
      | (subst c15; rw [Bool.eq_iff_iff]; simp [holds]; done)
      | (subst c15; rw [Bool.eq_iff_iff]; simp [holds]; omega)
      | (subst c21; rw [Bool.eq_iff_iff]; simp [holds, *]; done)
      | (subst c21; rw [Bool.eq_iff_iff]; simp [holds]; omega)
      | (subst c32; rw [Bool.eq_iff_iff]; simp [holds, *]; done)
      | (subst c32; rw [Bool.eq_iff_iff]; simp [holds]; omega)
      | (subst c44; simp [holds]; done)
      | (subst c49; simp [holds]; done)
      | (subst c55; rw [Bool.eq_iff_iff]; simp [holds, *]; done)
      | (subst c55; rw [Bool.eq_iff_iff]; simp [holds]; omega)
      | (have : n = 8 := by omega
         subst this; simp [holds]; done)
  · refine cSeq (cReg (tQ rfl (qEq rfl rfl) (tQ rfl (qAssign rfl) (tEnd (xThen ?_)))))
    refine cIf rfl (fun c15 => ?_) (fun c15 => ?_)
    · refine cSeq (cReg (tQ rfl (qMove rfl) (tQ rfl (qMove rfl) (tQ rfl (qLenStr Tryd.runUnderlying9 rfl rfl) (tQ rfl (qEq rfl rfl) (tQ rfl (qAssign rfl) (tEnd (xThen (cRet (xRetBlock (xRetThen ?_)))))))))))
      refine xRet1 _ Tryd.results128 rfl fun w' s' => ⟨congrArg Value.bool ?_, s'.toExt (Sub.refl _)⟩
      have hn1 := hn.1
      have hn2 := hn.2
      clear hn
      simp at *
      first
        | (subst c11; rw [Bool.eq_iff_iff]; simp [holds]; done)
        | (subst c15; rw [Bool.eq_iff_iff]; simp [holds]; done)
        | (subst c15; rw [Bool.eq_iff_iff]; simp [holds]; omega)
        | (subst c21; rw [Bool.eq_iff_iff]; simp [holds, *]; done)
        | (subst c21; rw [Bool.eq_iff_iff]; simp [holds]; omega)
        | (subst c32; rw [Bool.eq_iff_iff]; simp [holds, *]; done)
        | (subst c32; rw [Bool.eq_iff_iff]; simp [holds]; omega)
        | (subst c44; simp [holds]; done)
        | (subst c49; simp [holds]; done)
        | (subst c55; rw [Bool.eq_iff_iff]; simp [holds, *]; done)
        | (subst c55; rw [Bool.eq_iff_iff]; simp [holds]; omega)
        | (have : n = 8 := by omega
           subst this; simp [holds]; done)
    · refine cSeq (cReg (tQ rfl (qEq rfl rfl) (tQ rfl (qAssign rfl) (tEnd (xThen ?_)))))
      refine cIf rfl (fun c21 => ?_) (fun c21 => ?_)
      · refine cSeq (cReg (tQ rfl (qMove rfl) (tQ rfl (qEq rfl rfl) (tQ rfl (qMove rfl) ?_))))
        refine tCase 25 rfl (fun g25 => ?_) (fun g25 => ?_)
        · refine tNo rfl rfl rfl rfl (tNo rfl rfl rfl rfl (tNo rfl rfl rfl rfl (tNo rfl rfl rfl rfl (tNo rfl rfl rfl rfl (tQ rfl (qPickT rfl rfl) (tQ rfl (qAssign rfl) (tEnd (xThen (cRet (xRetBlock (xRetThen ?_)))))))))))
          refine xRet1 _ Tryd.results128 rfl fun w' s' => ⟨congrArg Value.bool ?_, s'.toExt (Sub.refl _)⟩
          have hn1 := hn.1
          have hn2 := hn.2
          clear hn
          simp at *
          first
            | (subst c11; rw [Bool.eq_iff_iff]; simp [holds]; done)
            | (subst c15; rw [Bool.eq_iff_iff]; simp [holds]; done)
            | (subst c15; rw [Bool.eq_iff_iff]; simp [holds]; omega)
            | (subst c21; rw [Bool.eq_iff_iff]; simp [holds, *]; done)
            | (subst c21; rw [Bool.eq_iff_iff]; simp [holds]; omega)
            | (subst c32; rw [Bool.eq_iff_iff]; simp [holds, *]; done)
            | (subst c32; rw [Bool.eq_iff_iff]; simp [holds]; omega)
            | (subst c44; simp [holds]; done)
            | (subst c49; simp [holds]; done)
            | (subst c55; rw [Bool.eq_iff_iff]; simp [holds, *]; done)
            | (subst c55; rw [Bool.eq_iff_iff]; simp [holds]; omega)
            | (have : n = 8 := by omega
               subst this; simp [holds]; done)
        · have h0 : 0 < p := by simp at g25; omega
          refine tGo rfl rfl (tQ rfl (qMove rfl) (tGo rfl rfl (tQ rfl (qMove rfl) (tGo rfl rfl (tQ rfl (qSub rfl rfl (w64 (by omega) (by omega))) (tGo rfl rfl (tQ rfl (qIdxStrB Tryd.runUnderlying9 rfl rfl (j := p - 1) (by omega) (by omega)) (tGo rfl rfl (tQ rfl (qEq rfl rfl) (tQ rfl (qPickF rfl rfl) (tQ rfl (qAssign rfl) ?_)))))))))))
          refine tEnd (xThen (cRet (xRetBlock (xRetThen ?_))))
          refine xRet1 _ Tryd.results128 rfl fun w' s' => ⟨congrArg Value.bool ?_, s'.toExt (Sub.refl _)⟩
          have hn1 := hn.1
          have hn2 := hn.2
          clear hn
          simp at *
          first
            | (subst c11; rw [Bool.eq_iff_iff]; simp [holds]; done)
            | (subst c15; rw [Bool.eq_iff_iff]; simp [holds]; done)
            | (subst c15; rw [Bool.eq_iff_iff]; simp [holds]; omega)
            | (subst c21; rw [Bool.eq_iff_iff]; simp [holds, *]; done)
            | (subst c21; rw [Bool.eq_iff_iff]; simp [holds]; omega)
            | (subst c32; rw [Bool.eq_iff_iff]; simp [holds, *]; done)
            | (subst c32; rw [Bool.eq_iff_iff]; simp [holds]; omega)
            | (subst c44; simp [holds]; done)
            | (subst c49; simp [holds]; done)
            | (subst c55; rw [Bool.eq_iff_iff]; simp [holds, *]; done)
            | (subst c55; rw [Bool.eq_iff_iff]; simp [holds]; omega)
            | (have : n = 8 := by omega
               subst this; simp [holds]; done)
      · refine cSeq (cReg (tQ rfl (qEq rfl rfl) (tQ rfl (qAssign rfl) (tEnd (xThen ?_)))))
        refine cIf rfl (fun c32 => ?_) (fun c32 => ?_)
        · refine cSeq (cReg (tQ rfl (qMove rfl) (tQ rfl (qMove rfl) (tQ rfl (qLenStr Tryd.runUnderlying9 rfl rfl) (tQ rfl (qEq rfl rfl) (tQ rfl (qMove rfl) ?_))))))
          refine tCase 38 rfl (fun g38 => ?_) (fun g38 => ?_)
          · refine tNo rfl rfl rfl rfl (tNo rfl rfl rfl rfl (tNo rfl rfl rfl rfl (tNo rfl rfl rfl rfl (tQ rfl (qPickT rfl rfl) (tQ rfl (qAssign rfl) (tEnd (xThen (cRet (xRetBlock (xRetThen ?_))))))))))
            refine xRet1 _ Tryd.results128 rfl fun w' s' => ⟨congrArg Value.bool ?_, s'.toExt (Sub.refl _)⟩
            have hn1 := hn.1
            have hn2 := hn.2
            clear hn
            simp at *
            first
              | (subst c11; rw [Bool.eq_iff_iff]; simp [holds]; done)
              | (subst c15; rw [Bool.eq_iff_iff]; simp [holds]; done)
              | (subst c15; rw [Bool.eq_iff_iff]; simp [holds]; omega)
              | (subst c21; rw [Bool.eq_iff_iff]; simp [holds, *]; done)
              | (subst c21; rw [Bool.eq_iff_iff]; simp [holds]; omega)
              | (subst c32; rw [Bool.eq_iff_iff]; simp [holds, *]; done)
              | (subst c32; rw [Bool.eq_iff_iff]; simp [holds]; omega)
              | (subst c44; simp [holds]; done)
              | (subst c49; simp [holds]; done)
              | (subst c55; rw [Bool.eq_iff_iff]; simp [holds, *]; done)
              | (subst c55; rw [Bool.eq_iff_iff]; simp [holds]; omega)
              | (have : n = 8 := by omega
                 subst this; simp [holds]; done)
          · have h0 : p < s.size := by simp at g38; omega
            refine tGo rfl rfl (tQ rfl (qMove rfl) (tGo rfl rfl (tQ rfl (qMove rfl) (tGo rfl rfl (tQ rfl (qIdxStrB Tryd.runUnderlying9 rfl rfl (j := p) (by omega) (by omega)) (tGo rfl rfl (tQ rfl (qEq rfl rfl) (tQ rfl (qPickF rfl rfl) (tQ rfl (qAssign rfl) (tEnd (xThen (cRet (xRetBlock (xRetThen ?_))))))))))))))
            refine xRet1 _ Tryd.results128 rfl fun w' s' => ⟨congrArg Value.bool ?_, s'.toExt (Sub.refl _)⟩
            have hn1 := hn.1
            have hn2 := hn.2
            clear hn
            simp at *
            first
              | (subst c11; rw [Bool.eq_iff_iff]; simp [holds]; done)
              | (subst c15; rw [Bool.eq_iff_iff]; simp [holds]; done)
              | (subst c15; rw [Bool.eq_iff_iff]; simp [holds]; omega)
              | (subst c21; rw [Bool.eq_iff_iff]; simp [holds, *]; done)
              | (subst c21; rw [Bool.eq_iff_iff]; simp [holds]; omega)
              | (subst c32; rw [Bool.eq_iff_iff]; simp [holds, *]; done)
              | (subst c32; rw [Bool.eq_iff_iff]; simp [holds]; omega)
              | (subst c44; simp [holds]; done)
              | (subst c49; simp [holds]; done)
              | (subst c55; rw [Bool.eq_iff_iff]; simp [holds, *]; done)
              | (subst c55; rw [Bool.eq_iff_iff]; simp [holds]; omega)
              | (have : n = 8 := by omega
                 subst this; simp [holds]; done)
        · refine cSeq (cReg (tQ rfl (qEq rfl rfl) (tQ rfl (qAssign rfl) (tEnd (xThen ?_)))))
          refine cIf rfl (fun c44 => ?_) (fun c44 => ?_)
          · refine cSeq (cReg (tQ rfl (qMove rfl) (tQ rfl (qMove rfl) (tCallQ rfl Tryd.call153 (first := []) (captured := []) rfl rfl (fun w' s' => word12 hple hs) (tQ rfl (qAssign rfl) (tEnd (xThen (cRet (xRetBlock (xRetThen ?_))))))))))
            refine xRet1 _ Tryd.results128 rfl fun w' s' => ⟨congrArg Value.bool ?_, s'.toExt (Sub.refl _)⟩
            have hn1 := hn.1
            have hn2 := hn.2
            clear hn
            simp at *
            first
              | (subst c11; rw [Bool.eq_iff_iff]; simp [holds]; done)
              | (subst c15; rw [Bool.eq_iff_iff]; simp [holds]; done)
              | (subst c15; rw [Bool.eq_iff_iff]; simp [holds]; omega)
              | (subst c21; rw [Bool.eq_iff_iff]; simp [holds, *]; done)
              | (subst c21; rw [Bool.eq_iff_iff]; simp [holds]; omega)
              | (subst c32; rw [Bool.eq_iff_iff]; simp [holds, *]; done)
              | (subst c32; rw [Bool.eq_iff_iff]; simp [holds]; omega)
              | (subst c44; simp [holds]; done)
              | (subst c49; simp [holds]; done)
              | (subst c55; rw [Bool.eq_iff_iff]; simp [holds, *]; done)
              | (subst c55; rw [Bool.eq_iff_iff]; simp [holds]; omega)
              | (have : n = 8 := by omega
                 subst this; simp [holds]; done)
          · refine cSeq (cReg (tQ rfl (qEq rfl rfl) (tQ rfl (qAssign rfl) (tEnd (xThen ?_)))))
            refine cIf rfl (fun c49 => ?_) (fun c49 => ?_)
            · refine cSeq (cReg (tQ rfl (qMove rfl) (tQ rfl (qMove rfl) (tCallQ rfl Tryd.call153 (first := []) (captured := []) rfl rfl (fun w' s' => word12 hple hs) (tQ rfl (qNot rfl) (tQ rfl (qAssign rfl) (tEnd (xThen (cRet (xRetBlock (xRetThen ?_)))))))))))
              refine xRet1 _ Tryd.results128 rfl fun w' s' => ⟨congrArg Value.bool ?_, s'.toExt (Sub.refl _)⟩
              have hn1 := hn.1
              have hn2 := hn.2
              clear hn
              simp at *
              first
                | (subst c11; rw [Bool.eq_iff_iff]; simp [holds]; done)
                | (subst c15; rw [Bool.eq_iff_iff]; simp [holds]; done)
                | (subst c15; rw [Bool.eq_iff_iff]; simp [holds]; omega)
                | (subst c21; rw [Bool.eq_iff_iff]; simp [holds, *]; done)
                | (subst c21; rw [Bool.eq_iff_iff]; simp [holds]; omega)
                | (subst c32; rw [Bool.eq_iff_iff]; simp [holds, *]; done)
                | (subst c32; rw [Bool.eq_iff_iff]; simp [holds]; omega)
                | (subst c44; simp [holds]; done)
                | (subst c49; simp [holds]; done)
                | (subst c55; rw [Bool.eq_iff_iff]; simp [holds, *]; done)
                | (subst c55; rw [Bool.eq_iff_iff]; simp [holds]; omega)
                | (have : n = 8 := by omega
                   subst this; simp [holds]; done)
            · refine cSeq (cReg (tQ rfl (qEq rfl rfl) (tQ rfl (qAssign rfl) (tEnd (xThen ?_)))))
              refine cIf rfl (fun c55 => ?_) (fun c55 => ?_)
              · refine cSeq (cSeq (cReg (tQ rfl (qMove rfl) (tQ rfl (qMove rfl) (tQ rfl (qLenStr Tryd.runUnderlying9 rfl rfl) (tQ rfl (qEq rfl rfl) (tEnd (xThen ?_))))))))
                refine cIf rfl (fun c60 => ?_) (fun c60 => ?_)
                · refine cSeq (cReg (tQ rfl (qAssign rfl) (tEnd (xThen (cRet (xRetThen (xRetBlock (xRetThen ?_))))))))
                  refine xRet1 _ Tryd.results128 rfl fun w' s' => ⟨congrArg Value.bool ?_, s'.toExt (Sub.refl _)⟩
                  have hn1 := hn.1
                  have hn2 := hn.2
                  clear hn
                  simp at *
                  first
                    | (subst c11; rw [Bool.eq_iff_iff]; simp [holds]; done)
                    | (subst c15; rw [Bool.eq_iff_iff]; simp [holds]; done)
                    | (subst c15; rw [Bool.eq_iff_iff]; simp [holds]; omega)
                    | (subst c21; rw [Bool.eq_iff_iff]; simp [holds, *]; done)
                    | (subst c21; rw [Bool.eq_iff_iff]; simp [holds]; omega)
                    | (subst c32; rw [Bool.eq_iff_iff]; simp [holds, *]; done)
                    | (subst c32; rw [Bool.eq_iff_iff]; simp [holds]; omega)
                    | (subst c44; simp [holds]; done)
                    | (subst c49; simp [holds]; done)
                    | (subst c55; rw [Bool.eq_iff_iff]; simp [holds, *]; done)
                    | (subst c55; rw [Bool.eq_iff_iff]; simp [holds]; omega)
                    | (have : n = 8 := by omega
                       subst this; simp [holds]; done)
                · refine cSkip (xThen (cSeq (cReg (tQ rfl (qMove rfl) (tQ rfl (qMove rfl) (tCallQ rfl Tryd.call99 (first := []) (captured := []) rfl rfl (fun w' s' => by have h := next01 (w := w') (s := s) (p := p) s'.sub hple hs; rw [if_pos (by simp at c60; omega)] at h; exact h) (tQ rfl (qMove rfl) (tQ rfl (qExtract rfl rfl) (tQ rfl (qExtract rfl rfl) (tQ rfl (qExtract rfl rfl) (tQ rfl (qAssign rfl) (tQ rfl (qAssign rfl) (tQ rfl (qAssign rfl) (tEnd (xThen (cSeq (cReg ?_)))))))))))))))))
                  refine tQ rfl (qMove rfl) (tQ rfl (qGt rfl rfl) (tQ rfl (qAssign rfl) (tEnd (xThen (cRet (xRetBlock (xRetThen ?_)))))))
                  refine xRet1 _ Tryd.results128 rfl fun w' s' => ⟨congrArg Value.bool ?_, s'.toExt (Sub.refl _)⟩
                  have hn1 := hn.1
                  have hn2 := hn.2
                  clear hn
                  simp at *
                  first
                    | (subst c11; rw [Bool.eq_iff_iff]; simp [holds]; done)
                    | (subst c15; rw [Bool.eq_iff_iff]; simp [holds]; done)
                    | (subst c15; rw [Bool.eq_iff_iff]; simp [holds]; omega)
                    | (subst c21; rw [Bool.eq_iff_iff]; simp [holds, *]; done)
                    | (subst c21; rw [Bool.eq_iff_iff]; simp [holds]; omega)
                    | (subst c32; rw [Bool.eq_iff_iff]; simp [holds, *]; done)
                    | (subst c32; rw [Bool.eq_iff_iff]; simp [holds]; omega)
                    | (subst c44; simp [holds]; done)
                    | (subst c49; simp [holds]; done)
                    | (subst c55; rw [Bool.eq_iff_iff]; simp [holds, *]; done)
                    | (subst c55; rw [Bool.eq_iff_iff]; simp [holds]; omega)
                    | (have : n = 8 := by omega
                       subst this; simp [holds]; done)
              · refine cSkip (xBlock (xThen (cSeq (cReg (tQ rfl (qMove rfl) (tQ rfl (qMove rfl) (tCallQ rfl Tryd.call22 (first := []) (captured := []) rfl rfl (fun w' s' => border01 s'.sub ⟨by omega, by omega⟩ hs) (tQ rfl (qAssign rfl) (tEnd (xThen (cRet ?_)))))))))))
                refine xRet1 _ Tryd.results128 rfl fun w' s' => ⟨congrArg Value.bool ?_, s'.toExt (Sub.refl _)⟩
                have hn1 := hn.1
                have hn2 := hn.2
                clear hn
                simp at *
                first
                  | (subst c11; rw [Bool.eq_iff_iff]; simp [holds]; done)
                  | (subst c15; rw [Bool.eq_iff_iff]; simp [holds]; done)
                  | (subst c15; rw [Bool.eq_iff_iff]; simp [holds]; omega)
                  | (subst c21; rw [Bool.eq_iff_iff]; simp [holds, *]; done)
                  | (subst c21; rw [Bool.eq_iff_iff]; simp [holds]; omega)
                  | (subst c32; rw [Bool.eq_iff_iff]; simp [holds, *]; done)
                  | (subst c32; rw [Bool.eq_iff_iff]; simp [holds]; omega)
                  | (subst c44; simp [holds]; done)
                  | (subst c49; simp [holds]; done)
                  | (subst c55; rw [Bool.eq_iff_iff]; simp [holds, *]; done)
                  | (subst c55; rw [Bool.eq_iff_iff]; simp [holds]; omega)
                  | (have : n = 8 := by omega
                     subst this; simp [holds]; done)

theorem nextT {w : World} {s : ByteArray} {p : Nat} (hple : p ≤ s.size) (hs : s.size ≤ 1000000000) :
    Calls Tryd.prog 139 [.string s, .int .i64 p].toArray w (fun e w' => e = .returned (.tuple #[.int .i32 (if p < s.size then (unt s p).1 else 0 : Nat), .int .i64 (if p < s.size then (unt s p).2 else 0 : Nat), .int .i64 (if p < s.size then 0 else 7)]) ∧ Ext w w') :=
  (next_ hple hs).mono fun e w' ⟨h1, h2⟩ => ⟨by
    rw [h1]
    by_cases h : p < s.size
    · simp only [if_pos h]
    · simp only [if_neg h]; rfl, h2⟩
theorem lookT {F : Hp} {w : World} {s : ByteArray} {p : Nat} {n : Int} (hF : Sub F (hp w)) (hT : T F) (hple : p ≤ s.size) (hs : s.size ≤ 1000000000) (hn : 1 ≤ n ∧ n ≤ 8) :
    Calls Tryd.prog 105 [.int .i64 n, .string s, .int .i64 p, .bool true].toArray w (fun e w' => e = .returned (.tuple #[.bool (holds n s p), .int .i64 0]) ∧ Ext w w') := by
  have hb := B_lt s p
  have hul := unt_le s p
  have hww := wordI_at s p hple
  refine enter' 110 Tryd.func105 Tryd.ntmps105 rfl rfl (cSeq (cReg (tQ rfl (qAssign rfl) (tQ rfl (qAssign rfl) (tEnd (xThen (cSeq (cSeq (cReg (tQ rfl (qMove rfl) (tQ rfl (qLt rfl rfl) (tQ rfl (qMove rfl) ?_))))))))))))
  refine tCase 15 rfl (fun g15 => ?_) (fun g15 => ?_)
  · refine tNo rfl rfl rfl rfl (tNo rfl rfl rfl rfl (tQ rfl (qPickT rfl rfl) (tQ rfl (qMove rfl) (tNo rfl rfl rfl rfl (tNo rfl rfl rfl rfl (tNo rfl rfl rfl rfl (tNoU rfl rfl rfl (tNoU rfl rfl rfl (tNo rfl rfl rfl rfl (tQ rfl (qPickT rfl rfl) (tEnd (xThen ?_))))))))))))
    refine cIfT rfl (cSeq (cReg (tQ rfl (qAssign rfl) (tQ rfl (qAssign rfl) (tEnd (xThen (cRet (xRetThen ?_))))))))
    exfalso; simp at *; omega
  · refine tGo rfl rfl (tQ rfl (qMove rfl) (tGo rfl rfl (tQ rfl (qGt rfl rfl) (tQ rfl (qPickF rfl rfl) (tQ rfl (qMove rfl) ?_)))))
    refine tCase 19 rfl (fun g19 => ?_) (fun g19 => ?_)
    · refine tNo rfl rfl rfl rfl (tNo rfl rfl rfl rfl (tNo rfl rfl rfl rfl (tNoU rfl rfl rfl (tNoU rfl rfl rfl (tNo rfl rfl rfl rfl (tQ rfl (qPickT rfl rfl) (tEnd (xThen (cIfT rfl (cSeq (cReg (tQ rfl (qAssign rfl) (tQ rfl (qAssign rfl) ?_)))))))))))))
      refine tEnd (xThen (cRet (xRetThen ?_)))
      exfalso; simp at *; omega
    · refine tGo rfl rfl (tQ rfl (qMove rfl) (tGo rfl rfl (tQ rfl (qGt rfl rfl) (tGo rfl rfl (tQ rfl (qMove rfl) ?_)))))
      refine tCase 22 rfl (fun g22 => ?_) (fun g22 => ?_)
      · refine tGo rfl rfl (tQ rfl (qMove rfl) (tGo rfl rfl (tQ rfl (qNot rfl) (tGo rfl rfl (tQ rfl (qPickT rfl rfl) (tQ rfl (qPickF rfl rfl) (tEnd (xThen (cIfF rfl (cSkip (xThen (cSeq (cSeq (cReg (tQ rfl (qMove rfl) (tQ rfl (qLt rfl rfl) ?_))))))))))))))))
        refine tQ rfl (qMove rfl) ?_
        refine tCase 29 rfl (fun g29 => ?_) (fun g29 => ?_)
        · refine tNo rfl rfl rfl rfl (tNo rfl rfl rfl rfl (tNo rfl rfl rfl rfl (tNo rfl rfl rfl rfl (tQ rfl (qPickT rfl rfl) (tQ rfl (qMove rfl) (tNo rfl rfl rfl rfl (tNo rfl rfl rfl rfl (tNo rfl rfl rfl rfl (tNoU rfl rfl rfl (tNoU rfl rfl rfl (tNoU rfl rfl rfl ?_)))))))))))
          refine tNoU rfl rfl rfl (tNo rfl rfl rfl rfl (tQ rfl (qPickT rfl rfl) (tEnd (xThen (cIfT rfl (cSeq (cReg (tQ rfl (qAssign rfl) (tQ rfl (qAssign rfl) (tEnd (xThen (cRet (xRetThen ?_)))))))))))))
          exfalso; simp at *; first | omega | (simp_all; done)
        · refine tGo rfl rfl (tQ rfl (qMove rfl) (tGo rfl rfl (tQ rfl (qMove rfl) (tGo rfl rfl (tQ rfl (qLenStr Tryd.runUnderlying9 rfl rfl) (tGo rfl rfl (tQ rfl (qGt rfl rfl) (tQ rfl (qPickF rfl rfl) (tQ rfl (qMove rfl) ?_)))))))))
          refine tCase 35 rfl (fun g35 => ?_) (fun g35 => ?_)
          · refine tNo rfl rfl rfl rfl (tNo rfl rfl rfl rfl (tNo rfl rfl rfl rfl (tNoU rfl rfl rfl (tNoU rfl rfl rfl (tNoU rfl rfl rfl (tNoU rfl rfl rfl (tNo rfl rfl rfl rfl (tQ rfl (qPickT rfl rfl) (tEnd (xThen (cIfT rfl (cSeq (cReg ?_)))))))))))))
            refine tQ rfl (qAssign rfl) (tQ rfl (qAssign rfl) (tEnd (xThen (cRet (xRetThen ?_)))))
            exfalso; simp at *; first | omega | (simp_all; done)
          · refine tGo rfl rfl (tQ rfl (qMove rfl) (tGo rfl rfl (tQ rfl (qNot rfl) (tGo rfl rfl (tQ rfl (qMove rfl) (tNo rfl rfl rfl rfl (tNo rfl rfl rfl rfl (tNo rfl rfl rfl rfl (tNo rfl rfl rfl rfl (tGo rfl rfl (tQ rfl (qPickF rfl rfl) ?_)))))))))))
            refine tQ rfl (qPickF rfl rfl) (tEnd (xThen (cIfF rfl (cSkip (xThen (cSeq (cSeq (cReg (tQ rfl (qMove rfl) (tEnd (xThen (cBlock (cSeq (cReg (tQ rfl (qEq rfl rfl) (tQ rfl (qAssign rfl) (tEnd (xThen ?_))))))))))))))))))
            refine cIf rfl (fun c46 => ?_) (fun c46 => ?_)
            · refine cSeq (cReg (tQ rfl (qMove rfl) (tQ rfl (qEq rfl rfl) (tQ rfl (qAssign rfl) (tQ rfl (qAssign rfl) (tEnd (xThen (cRet (xRetBlock (xRetThen ?_))))))))))
              refine xRet2 _ _ Tryd.results105 rfl rfl fun w' s' => ⟨congrArg (fun b => Value.tuple #[Value.bool b, Value.int .i64 0]) ?_, s'.toExt (Sub.refl _)⟩
              have hn1 := hn.1
              have hn2 := hn.2
              clear hn
              first
                | (simp at *
                   first
                     | (subst c46; rw [Bool.eq_iff_iff]; simp [holds]; done)
                     | (subst c50; rw [Bool.eq_iff_iff]; simp [holds]; done)
                     | (subst c50; rw [Bool.eq_iff_iff]; simp [holds]; omega)
                     | (subst c56; rw [Bool.eq_iff_iff]; simp [holds, *]; done)
                     | (subst c56; rw [Bool.eq_iff_iff]; simp [holds]; omega)
                     | (subst c67; rw [Bool.eq_iff_iff]; simp [holds, *]; done)
                     | (subst c67; rw [Bool.eq_iff_iff]; simp [holds]; omega)
                     | (subst c79; simp [holds]; done)
                     | (exfalso; omega))
                | (have hps : p < s.size := by
                     rcases Nat.lt_or_ge p s.size with h | h
                     · exact h
                     · exfalso; simp [Nat.not_lt.2 h] at *
                   simp only [if_pos hps] at *
                   simp at *
                   subst c84; rw [Bool.eq_iff_iff]; simp [holds]; omega)
                | (have hps : ¬ p < s.size := by
                     intro h; simp [h] at *
                   simp at *
                   subst c84; rw [Bool.eq_iff_iff]; simp [holds]; omega)
                | (rw [show (!(wordI s ((p : Int) - 1) == wordI s p)) = wordAt s p from hww]
                   have hn56 : n = 5 ∨ n = 6 := by simp at *; omega
                   rcases hn56 with rfl | rfl <;> simp [holds])
            · refine cSeq (cReg (tQ rfl (qEq rfl rfl) (tQ rfl (qAssign rfl) (tEnd (xThen ?_)))))
              refine cIf rfl (fun c50 => ?_) (fun c50 => ?_)
              · refine cSeq (cReg (tQ rfl (qMove rfl) (tQ rfl (qMove rfl) (tQ rfl (qLenStr Tryd.runUnderlying9 rfl rfl) (tQ rfl (qEq rfl rfl) (tQ rfl (qAssign rfl) (tQ rfl (qAssign rfl) (tEnd (xThen (cRet (xRetBlock (xRetThen ?_))))))))))))
                refine xRet2 _ _ Tryd.results105 rfl rfl fun w' s' => ⟨congrArg (fun b => Value.tuple #[Value.bool b, Value.int .i64 0]) ?_, s'.toExt (Sub.refl _)⟩
                have hn1 := hn.1
                have hn2 := hn.2
                clear hn
                first
                  | (simp at *
                     first
                       | (subst c46; rw [Bool.eq_iff_iff]; simp [holds]; done)
                       | (subst c50; rw [Bool.eq_iff_iff]; simp [holds]; done)
                       | (subst c50; rw [Bool.eq_iff_iff]; simp [holds]; omega)
                       | (subst c56; rw [Bool.eq_iff_iff]; simp [holds, *]; done)
                       | (subst c56; rw [Bool.eq_iff_iff]; simp [holds]; omega)
                       | (subst c67; rw [Bool.eq_iff_iff]; simp [holds, *]; done)
                       | (subst c67; rw [Bool.eq_iff_iff]; simp [holds]; omega)
                       | (subst c79; simp [holds]; done)
                       | (exfalso; omega))
                  | (have hps : p < s.size := by
                       rcases Nat.lt_or_ge p s.size with h | h
                       · exact h
                       · exfalso; simp [Nat.not_lt.2 h] at *
                     simp only [if_pos hps] at *
                     simp at *
                     subst c84; rw [Bool.eq_iff_iff]; simp [holds]; omega)
                  | (have hps : ¬ p < s.size := by
                       intro h; simp [h] at *
                     simp at *
                     subst c84; rw [Bool.eq_iff_iff]; simp [holds]; omega)
                  | (rw [show (!(wordI s ((p : Int) - 1) == wordI s p)) = wordAt s p from hww]
                     have hn56 : n = 5 ∨ n = 6 := by simp at *; omega
                     rcases hn56 with rfl | rfl <;> simp [holds])
              · refine cSeq (cReg (tQ rfl (qEq rfl rfl) (tQ rfl (qAssign rfl) (tEnd (xThen ?_)))))
                refine cIf rfl (fun c56 => ?_) (fun c56 => ?_)
                · refine cSeq (cReg (tQ rfl (qMove rfl) (tQ rfl (qEq rfl rfl) (tQ rfl (qMove rfl) ?_))))
                  refine tCase 60 rfl (fun g60 => ?_) (fun g60 => ?_)
                  · refine tNo rfl rfl rfl rfl (tNo rfl rfl rfl rfl (tNo rfl rfl rfl rfl (tNo rfl rfl rfl rfl (tNo rfl rfl rfl rfl (tQ rfl (qPickT rfl rfl) (tQ rfl (qAssign rfl) (tQ rfl (qAssign rfl) (tEnd (xThen (cRet (xRetBlock (xRetThen ?_))))))))))))
                    refine xRet2 _ _ Tryd.results105 rfl rfl fun w' s' => ⟨congrArg (fun b => Value.tuple #[Value.bool b, Value.int .i64 0]) ?_, s'.toExt (Sub.refl _)⟩
                    have hn1 := hn.1
                    have hn2 := hn.2
                    clear hn
                    first
                      | (simp at *
                         first
                           | (subst c46; rw [Bool.eq_iff_iff]; simp [holds]; done)
                           | (subst c50; rw [Bool.eq_iff_iff]; simp [holds]; done)
                           | (subst c50; rw [Bool.eq_iff_iff]; simp [holds]; omega)
                           | (subst c56; rw [Bool.eq_iff_iff]; simp [holds, *]; done)
                           | (subst c56; rw [Bool.eq_iff_iff]; simp [holds]; omega)
                           | (subst c67; rw [Bool.eq_iff_iff]; simp [holds, *]; done)
                           | (subst c67; rw [Bool.eq_iff_iff]; simp [holds]; omega)
                           | (subst c79; simp [holds]; done)
                           | (exfalso; omega))
                      | (have hps : p < s.size := by
                           rcases Nat.lt_or_ge p s.size with h | h
                           · exact h
                           · exfalso; simp [Nat.not_lt.2 h] at *
                         simp only [if_pos hps] at *
                         simp at *
                         subst c84; rw [Bool.eq_iff_iff]; simp [holds]; omega)
                      | (have hps : ¬ p < s.size := by
                           intro h; simp [h] at *
                         simp at *
                         subst c84; rw [Bool.eq_iff_iff]; simp [holds]; omega)
                      | (rw [show (!(wordI s ((p : Int) - 1) == wordI s p)) = wordAt s p from hww]
                         have hn56 : n = 5 ∨ n = 6 := by simp at *; omega
                         rcases hn56 with rfl | rfl <;> simp [holds])
                  · have h0 : 0 < p := by simp at g60; omega
                    refine tGo rfl rfl (tQ rfl (qMove rfl) (tGo rfl rfl (tQ rfl (qMove rfl) (tGo rfl rfl (tQ rfl (qSub rfl rfl (w64 (by omega) (by omega))) (tGo rfl rfl (tQ rfl (qIdxStrB Tryd.runUnderlying9 rfl rfl (j := p - 1) (by omega) (by omega)) (tGo rfl rfl (tQ rfl (qEq rfl rfl) (tQ rfl (qPickF rfl rfl) (tQ rfl (qAssign rfl) ?_)))))))))))
                    refine tQ rfl (qAssign rfl) (tEnd (xThen (cRet (xRetBlock (xRetThen ?_)))))
                    refine xRet2 _ _ Tryd.results105 rfl rfl fun w' s' => ⟨congrArg (fun b => Value.tuple #[Value.bool b, Value.int .i64 0]) ?_, s'.toExt (Sub.refl _)⟩
                    have hn1 := hn.1
                    have hn2 := hn.2
                    clear hn
                    first
                      | (simp at *
                         first
                           | (subst c46; rw [Bool.eq_iff_iff]; simp [holds]; done)
                           | (subst c50; rw [Bool.eq_iff_iff]; simp [holds]; done)
                           | (subst c50; rw [Bool.eq_iff_iff]; simp [holds]; omega)
                           | (subst c56; rw [Bool.eq_iff_iff]; simp [holds, *]; done)
                           | (subst c56; rw [Bool.eq_iff_iff]; simp [holds]; omega)
                           | (subst c67; rw [Bool.eq_iff_iff]; simp [holds, *]; done)
                           | (subst c67; rw [Bool.eq_iff_iff]; simp [holds]; omega)
                           | (subst c79; simp [holds]; done)
                           | (exfalso; omega))
                      | (have hps : p < s.size := by
                           rcases Nat.lt_or_ge p s.size with h | h
                           · exact h
                           · exfalso; simp [Nat.not_lt.2 h] at *
                         simp only [if_pos hps] at *
                         simp at *
                         subst c84; rw [Bool.eq_iff_iff]; simp [holds]; omega)
                      | (have hps : ¬ p < s.size := by
                           intro h; simp [h] at *
                         simp at *
                         subst c84; rw [Bool.eq_iff_iff]; simp [holds]; omega)
                      | (rw [show (!(wordI s ((p : Int) - 1) == wordI s p)) = wordAt s p from hww]
                         have hn56 : n = 5 ∨ n = 6 := by simp at *; omega
                         rcases hn56 with rfl | rfl <;> simp [holds])
                · refine cSeq (cReg (tQ rfl (qEq rfl rfl) (tQ rfl (qAssign rfl) (tEnd (xThen ?_)))))
                  refine cIf rfl (fun c67 => ?_) (fun c67 => ?_)
                  · refine cSeq (cReg (tQ rfl (qMove rfl) (tQ rfl (qMove rfl) (tQ rfl (qLenStr Tryd.runUnderlying9 rfl rfl) (tQ rfl (qEq rfl rfl) (tQ rfl (qMove rfl) ?_))))))
                    refine tCase 73 rfl (fun g73 => ?_) (fun g73 => ?_)
                    · refine tNo rfl rfl rfl rfl (tNo rfl rfl rfl rfl (tNo rfl rfl rfl rfl (tNo rfl rfl rfl rfl (tQ rfl (qPickT rfl rfl) (tQ rfl (qAssign rfl) (tQ rfl (qAssign rfl) (tEnd (xThen (cRet (xRetBlock (xRetThen ?_)))))))))))
                      refine xRet2 _ _ Tryd.results105 rfl rfl fun w' s' => ⟨congrArg (fun b => Value.tuple #[Value.bool b, Value.int .i64 0]) ?_, s'.toExt (Sub.refl _)⟩
                      have hn1 := hn.1
                      have hn2 := hn.2
                      clear hn
                      first
                        | (simp at *
                           first
                             | (subst c46; rw [Bool.eq_iff_iff]; simp [holds]; done)
                             | (subst c50; rw [Bool.eq_iff_iff]; simp [holds]; done)
                             | (subst c50; rw [Bool.eq_iff_iff]; simp [holds]; omega)
                             | (subst c56; rw [Bool.eq_iff_iff]; simp [holds, *]; done)
                             | (subst c56; rw [Bool.eq_iff_iff]; simp [holds]; omega)
                             | (subst c67; rw [Bool.eq_iff_iff]; simp [holds, *]; done)
                             | (subst c67; rw [Bool.eq_iff_iff]; simp [holds]; omega)
                             | (subst c79; simp [holds]; done)
                             | (exfalso; omega))
                        | (have hps : p < s.size := by
                             rcases Nat.lt_or_ge p s.size with h | h
                             · exact h
                             · exfalso; simp [Nat.not_lt.2 h] at *
                           simp only [if_pos hps] at *
                           simp at *
                           subst c84; rw [Bool.eq_iff_iff]; simp [holds]; omega)
                        | (have hps : ¬ p < s.size := by
                             intro h; simp [h] at *
                           simp at *
                           subst c84; rw [Bool.eq_iff_iff]; simp [holds]; omega)
                        | (rw [show (!(wordI s ((p : Int) - 1) == wordI s p)) = wordAt s p from hww]
                           have hn56 : n = 5 ∨ n = 6 := by simp at *; omega
                           rcases hn56 with rfl | rfl <;> simp [holds])
                    · have h0 : p < s.size := by simp at g73; omega
                      refine tGo rfl rfl (tQ rfl (qMove rfl) (tGo rfl rfl (tQ rfl (qMove rfl) (tGo rfl rfl (tQ rfl (qIdxStrB Tryd.runUnderlying9 rfl rfl (j := p) (by omega) (by omega)) (tGo rfl rfl (tQ rfl (qEq rfl rfl) (tQ rfl (qPickF rfl rfl) (tQ rfl (qAssign rfl) (tQ rfl (qAssign rfl) (tEnd (xThen (cRet (xRetBlock (xRetThen ?_)))))))))))))))
                      refine xRet2 _ _ Tryd.results105 rfl rfl fun w' s' => ⟨congrArg (fun b => Value.tuple #[Value.bool b, Value.int .i64 0]) ?_, s'.toExt (Sub.refl _)⟩
                      have hn1 := hn.1
                      have hn2 := hn.2
                      clear hn
                      first
                        | (simp at *
                           first
                             | (subst c46; rw [Bool.eq_iff_iff]; simp [holds]; done)
                             | (subst c50; rw [Bool.eq_iff_iff]; simp [holds]; done)
                             | (subst c50; rw [Bool.eq_iff_iff]; simp [holds]; omega)
                             | (subst c56; rw [Bool.eq_iff_iff]; simp [holds, *]; done)
                             | (subst c56; rw [Bool.eq_iff_iff]; simp [holds]; omega)
                             | (subst c67; rw [Bool.eq_iff_iff]; simp [holds, *]; done)
                             | (subst c67; rw [Bool.eq_iff_iff]; simp [holds]; omega)
                             | (subst c79; simp [holds]; done)
                             | (exfalso; omega))
                        | (have hps : p < s.size := by
                             rcases Nat.lt_or_ge p s.size with h | h
                             · exact h
                             · exfalso; simp [Nat.not_lt.2 h] at *
                           simp only [if_pos hps] at *
                           simp at *
                           subst c84; rw [Bool.eq_iff_iff]; simp [holds]; omega)
                        | (have hps : ¬ p < s.size := by
                             intro h; simp [h] at *
                           simp at *
                           subst c84; rw [Bool.eq_iff_iff]; simp [holds]; omega)
                        | (rw [show (!(wordI s ((p : Int) - 1) == wordI s p)) = wordAt s p from hww]
                           have hn56 : n = 5 ∨ n = 6 := by simp at *; omega
                           rcases hn56 with rfl | rfl <;> simp [holds])
                  · refine cSeq (cReg (tQ rfl (qEq rfl rfl) (tQ rfl (qAssign rfl) (tEnd (xThen ?_)))))
                    refine cIf rfl (fun c79 => ?_) (fun c79 => ?_)
                    · refine cSeq (cReg (tQ rfl (qMove rfl) (tQ rfl (qMove rfl) (tCallQ rfl Tryd.call100 (first := []) (captured := []) rfl rfl (fun w' s' => borderU (hF.trans s'.sub) hT ⟨by omega, by omega⟩ hs) (tQ rfl (qAssign rfl) (tQ rfl (qAssign rfl) (tEnd (xThen (cRet (xRetBlock (xRetThen ?_)))))))))))
                      refine xRet2 _ _ Tryd.results105 rfl rfl fun w' s' => ⟨congrArg (fun b => Value.tuple #[Value.bool b, Value.int .i64 0]) ?_, s'.toExt (Sub.refl _)⟩
                      have hn1 := hn.1
                      have hn2 := hn.2
                      clear hn
                      first
                        | (simp at *
                           first
                             | (subst c46; rw [Bool.eq_iff_iff]; simp [holds]; done)
                             | (subst c50; rw [Bool.eq_iff_iff]; simp [holds]; done)
                             | (subst c50; rw [Bool.eq_iff_iff]; simp [holds]; omega)
                             | (subst c56; rw [Bool.eq_iff_iff]; simp [holds, *]; done)
                             | (subst c56; rw [Bool.eq_iff_iff]; simp [holds]; omega)
                             | (subst c67; rw [Bool.eq_iff_iff]; simp [holds, *]; done)
                             | (subst c67; rw [Bool.eq_iff_iff]; simp [holds]; omega)
                             | (subst c79; simp [holds]; done)
                             | (exfalso; omega))
                        | (have hps : p < s.size := by
                             rcases Nat.lt_or_ge p s.size with h | h
                             · exact h
                             · exfalso; simp [Nat.not_lt.2 h] at *
                           simp only [if_pos hps] at *
                           simp at *
                           subst c84; rw [Bool.eq_iff_iff]; simp [holds]; omega)
                        | (have hps : ¬ p < s.size := by
                             intro h; simp [h] at *
                           simp at *
                           subst c84; rw [Bool.eq_iff_iff]; simp [holds]; omega)
                        | (rw [show (!(wordI s ((p : Int) - 1) == wordI s p)) = wordAt s p from hww]
                           have hn56 : n = 5 ∨ n = 6 := by simp at *; omega
                           rcases hn56 with rfl | rfl <;> simp [holds])
                    · refine cSeq (cReg (tQ rfl (qEq rfl rfl) (tQ rfl (qAssign rfl) (tEnd (xThen ?_)))))
                      refine cIf rfl (fun c84 => ?_) (fun c84 => ?_)
                      · refine cSeq (cReg (tQ rfl (qMove rfl) (tQ rfl (qMove rfl) (tCallQ rfl Tryd.call139 (first := []) (captured := []) rfl rfl (fun w' s' => nextT hple hs) (tQ rfl (qMove rfl) (tQ rfl (qExtract rfl rfl) (tQ rfl (qExtract rfl rfl) (tQ rfl (qExtract rfl rfl) (tQ rfl (qAssign rfl) (tQ rfl (qAssign rfl) (tQ rfl (qAssign rfl) (tEnd (xThen (cSeq (cReg ?_)))))))))))))))
                        refine tQ rfl (qMove rfl) (tQ rfl (qNe rfl rfl) (tQ rfl (qMove rfl) ?_))
                        refine tCase 95 rfl (fun g95 => ?_) (fun g95 => ?_)
                        · refine tNo rfl rfl rfl rfl (tNo rfl rfl rfl rfl (tQ rfl (qPickT rfl rfl) (tQ rfl (qAssign rfl) (tQ rfl (qAssign rfl) (tEnd (xThen (cRet (xRetBlock (xRetThen ?_)))))))))
                          refine xRet2 _ _ Tryd.results105 rfl rfl fun w' s' => ⟨congrArg (fun b => Value.tuple #[Value.bool b, Value.int .i64 0]) ?_, s'.toExt (Sub.refl _)⟩
                          have hn1 := hn.1
                          have hn2 := hn.2
                          clear hn
                          first
                            | (simp at *
                               first
                                 | (subst c46; rw [Bool.eq_iff_iff]; simp [holds]; done)
                                 | (subst c50; rw [Bool.eq_iff_iff]; simp [holds]; done)
                                 | (subst c50; rw [Bool.eq_iff_iff]; simp [holds]; omega)
                                 | (subst c56; rw [Bool.eq_iff_iff]; simp [holds, *]; done)
                                 | (subst c56; rw [Bool.eq_iff_iff]; simp [holds]; omega)
                                 | (subst c67; rw [Bool.eq_iff_iff]; simp [holds, *]; done)
                                 | (subst c67; rw [Bool.eq_iff_iff]; simp [holds]; omega)
                                 | (subst c79; simp [holds]; done)
                                 | (exfalso; omega))
                            | (have hps : p < s.size := by
                                 rcases Nat.lt_or_ge p s.size with h | h
                                 · exact h
                                 · exfalso; simp [Nat.not_lt.2 h] at *
                               simp only [if_pos hps] at *
                               simp at *
                               subst c84; rw [Bool.eq_iff_iff]; simp [holds]; omega)
                            | (have hps : ¬ p < s.size := by
                                 intro h; simp [h] at *
                               simp at *
                               subst c84; rw [Bool.eq_iff_iff]; simp [holds]; omega)
                            | (rw [show (!(wordI s ((p : Int) - 1) == wordI s p)) = wordAt s p from hww]
                               have hn56 : n = 5 ∨ n = 6 := by simp at *; omega
                               rcases hn56 with rfl | rfl <;> simp [holds])
                        · refine tGo rfl rfl (tQ rfl (qMove rfl) (tGo rfl rfl (tQ rfl (qGe rfl rfl) (tQ rfl (qPickF rfl rfl) (tQ rfl (qAssign rfl) (tQ rfl (qAssign rfl) (tEnd (xThen (cRet (xRetBlock (xRetThen ?_)))))))))))
                          refine xRet2 _ _ Tryd.results105 rfl rfl fun w' s' => ⟨congrArg (fun b => Value.tuple #[Value.bool b, Value.int .i64 0]) ?_, s'.toExt (Sub.refl _)⟩
                          have hn1 := hn.1
                          have hn2 := hn.2
                          clear hn
                          first
                            | (simp at *
                               first
                                 | (subst c46; rw [Bool.eq_iff_iff]; simp [holds]; done)
                                 | (subst c50; rw [Bool.eq_iff_iff]; simp [holds]; done)
                                 | (subst c50; rw [Bool.eq_iff_iff]; simp [holds]; omega)
                                 | (subst c56; rw [Bool.eq_iff_iff]; simp [holds, *]; done)
                                 | (subst c56; rw [Bool.eq_iff_iff]; simp [holds]; omega)
                                 | (subst c67; rw [Bool.eq_iff_iff]; simp [holds, *]; done)
                                 | (subst c67; rw [Bool.eq_iff_iff]; simp [holds]; omega)
                                 | (subst c79; simp [holds]; done)
                                 | (exfalso; omega))
                            | (have hps : p < s.size := by
                                 rcases Nat.lt_or_ge p s.size with h | h
                                 · exact h
                                 · exfalso; simp [Nat.not_lt.2 h] at *
                               simp only [if_pos hps] at *
                               simp at *
                               subst c84; rw [Bool.eq_iff_iff]; simp [holds]; omega)
                            | (have hps : ¬ p < s.size := by
                                 intro h; simp [h] at *
                               simp at *
                               subst c84; rw [Bool.eq_iff_iff]; simp [holds]; omega)
                            | (rw [show (!(wordI s ((p : Int) - 1) == wordI s p)) = wordAt s p from hww]
                               have hn56 : n = 5 ∨ n = 6 := by simp at *; omega
                               rcases hn56 with rfl | rfl <;> simp [holds])
                      · refine cSkip (xBlock (xThen (cSeq (cReg (tQ rfl (qMove rfl) (tQ rfl (qMove rfl) (tQ rfl (qSub rfl rfl (w64 (by omega) (by omega))) (tCallQ rfl Tryd.call140 (first := []) (captured := []) rfl rfl (fun w' s' => wordP ⟨by omega, by omega⟩ hs) (tQ rfl (qMove rfl) (tQ rfl (qMove rfl) (tCallQ rfl Tryd.call140 (first := []) (captured := []) rfl rfl (fun w' s' => wordP ⟨by omega, by omega⟩ hs) (tQ rfl (qBoolNe Tryd.runUnderlying4 rfl rfl) (tQ rfl (qMove rfl) (tQ rfl (qEq rfl rfl) (tQ rfl (qBoolEq Tryd.runUnderlying4 rfl rfl) ?_)))))))))))))))
                        refine tQ rfl (qAssign rfl) (tQ rfl (qAssign rfl) (tEnd (xThen (cRet ?_))))
                        refine xRet2 _ _ Tryd.results105 rfl rfl fun w' s' => ⟨congrArg (fun b => Value.tuple #[Value.bool b, Value.int .i64 0]) ?_, s'.toExt (Sub.refl _)⟩
                        have hn1 := hn.1
                        have hn2 := hn.2
                        clear hn
                        first
                          | (simp at *
                             first
                               | (subst c46; rw [Bool.eq_iff_iff]; simp [holds]; done)
                               | (subst c50; rw [Bool.eq_iff_iff]; simp [holds]; done)
                               | (subst c50; rw [Bool.eq_iff_iff]; simp [holds]; omega)
                               | (subst c56; rw [Bool.eq_iff_iff]; simp [holds, *]; done)
                               | (subst c56; rw [Bool.eq_iff_iff]; simp [holds]; omega)
                               | (subst c67; rw [Bool.eq_iff_iff]; simp [holds, *]; done)
                               | (subst c67; rw [Bool.eq_iff_iff]; simp [holds]; omega)
                               | (subst c79; simp [holds]; done)
                               | (exfalso; omega))
                          | (have hps : p < s.size := by
                               rcases Nat.lt_or_ge p s.size with h | h
                               · exact h
                               · exfalso; simp [Nat.not_lt.2 h] at *
                             simp only [if_pos hps] at *
                             simp at *
                             subst c84; rw [Bool.eq_iff_iff]; simp [holds]; omega)
                          | (have hps : ¬ p < s.size := by
                               intro h; simp [h] at *
                             simp at *
                             subst c84; rw [Bool.eq_iff_iff]; simp [holds]; omega)
                          | (rw [show (!(wordI s ((p : Int) - 1) == wordI s p)) = wordAt s p from hww]
                             have hn56 : n = 5 ∨ n = 6 := by simp at *; omega
                             rcases hn56 with rfl | rfl <;> simp [holds])
      · refine tNo rfl rfl rfl rfl (tNo rfl rfl rfl rfl (tGo rfl rfl (tQ rfl (qPickF rfl rfl) (tQ rfl (qPickF rfl rfl) (tEnd (xThen (cIfF rfl (cSkip (xThen (cSeq (cSeq (cReg (tQ rfl (qMove rfl) (tQ rfl (qLt rfl rfl) (tQ rfl (qMove rfl) ?_)))))))))))))))
        refine tCase 29 rfl (fun g29 => ?_) (fun g29 => ?_)
        · refine tNo rfl rfl rfl rfl (tNo rfl rfl rfl rfl (tNo rfl rfl rfl rfl (tNo rfl rfl rfl rfl (tQ rfl (qPickT rfl rfl) (tQ rfl (qMove rfl) (tNo rfl rfl rfl rfl (tNo rfl rfl rfl rfl (tNo rfl rfl rfl rfl (tNoU rfl rfl rfl (tNoU rfl rfl rfl (tNoU rfl rfl rfl ?_)))))))))))
          refine tNoU rfl rfl rfl (tNo rfl rfl rfl rfl (tQ rfl (qPickT rfl rfl) (tEnd (xThen (cIfT rfl (cSeq (cReg (tQ rfl (qAssign rfl) (tQ rfl (qAssign rfl) (tEnd (xThen (cRet (xRetThen ?_)))))))))))))
          exfalso; simp at *; first | omega | (simp_all; done)
        · refine tGo rfl rfl (tQ rfl (qMove rfl) (tGo rfl rfl (tQ rfl (qMove rfl) (tGo rfl rfl (tQ rfl (qLenStr Tryd.runUnderlying9 rfl rfl) (tGo rfl rfl (tQ rfl (qGt rfl rfl) (tQ rfl (qPickF rfl rfl) (tQ rfl (qMove rfl) ?_)))))))))
          refine tCase 35 rfl (fun g35 => ?_) (fun g35 => ?_)
          · refine tNo rfl rfl rfl rfl (tNo rfl rfl rfl rfl (tNo rfl rfl rfl rfl (tNoU rfl rfl rfl (tNoU rfl rfl rfl (tNoU rfl rfl rfl (tNoU rfl rfl rfl (tNo rfl rfl rfl rfl (tQ rfl (qPickT rfl rfl) (tEnd (xThen (cIfT rfl (cSeq (cReg ?_)))))))))))))
            refine tQ rfl (qAssign rfl) (tQ rfl (qAssign rfl) (tEnd (xThen (cRet (xRetThen ?_)))))
            exfalso; simp at *; first | omega | (simp_all; done)
          · refine tGo rfl rfl (tQ rfl (qMove rfl) (tGo rfl rfl (tQ rfl (qNot rfl) (tGo rfl rfl (tQ rfl (qMove rfl) (tNo rfl rfl rfl rfl (tNo rfl rfl rfl rfl (tNo rfl rfl rfl rfl (tNo rfl rfl rfl rfl (tGo rfl rfl (tQ rfl (qPickF rfl rfl) ?_)))))))))))
            refine tQ rfl (qPickF rfl rfl) (tEnd (xThen (cIfF rfl (cSkip (xThen (cSeq (cSeq (cReg (tQ rfl (qMove rfl) (tEnd (xThen (cBlock (cSeq (cReg (tQ rfl (qEq rfl rfl) (tQ rfl (qAssign rfl) (tEnd (xThen ?_))))))))))))))))))
            refine cIf rfl (fun c46 => ?_) (fun c46 => ?_)
            · refine cSeq (cReg (tQ rfl (qMove rfl) (tQ rfl (qEq rfl rfl) (tQ rfl (qAssign rfl) (tQ rfl (qAssign rfl) (tEnd (xThen (cRet (xRetBlock (xRetThen ?_))))))))))
              refine xRet2 _ _ Tryd.results105 rfl rfl fun w' s' => ⟨congrArg (fun b => Value.tuple #[Value.bool b, Value.int .i64 0]) ?_, s'.toExt (Sub.refl _)⟩
              have hn1 := hn.1
              have hn2 := hn.2
              clear hn
              first
                | (simp at *
                   first
                     | (subst c46; rw [Bool.eq_iff_iff]; simp [holds]; done)
                     | (subst c50; rw [Bool.eq_iff_iff]; simp [holds]; done)
                     | (subst c50; rw [Bool.eq_iff_iff]; simp [holds]; omega)
                     | (subst c56; rw [Bool.eq_iff_iff]; simp [holds, *]; done)
                     | (subst c56; rw [Bool.eq_iff_iff]; simp [holds]; omega)
                     | (subst c67; rw [Bool.eq_iff_iff]; simp [holds, *]; done)
                     | (subst c67; rw [Bool.eq_iff_iff]; simp [holds]; omega)
                     | (subst c79; simp [holds]; done)
                     | (exfalso; omega))
                | (have hps : p < s.size := by
                     rcases Nat.lt_or_ge p s.size with h | h
                     · exact h
                     · exfalso; simp [Nat.not_lt.2 h] at *
                   simp only [if_pos hps] at *
                   simp at *
                   subst c84; rw [Bool.eq_iff_iff]; simp [holds]; omega)
                | (have hps : ¬ p < s.size := by
                     intro h; simp [h] at *
                   simp at *
                   subst c84; rw [Bool.eq_iff_iff]; simp [holds]; omega)
                | (rw [show (!(wordI s ((p : Int) - 1) == wordI s p)) = wordAt s p from hww]
                   have hn56 : n = 5 ∨ n = 6 := by simp at *; omega
                   rcases hn56 with rfl | rfl <;> simp [holds])
            · refine cSeq (cReg (tQ rfl (qEq rfl rfl) (tQ rfl (qAssign rfl) (tEnd (xThen ?_)))))
              refine cIf rfl (fun c50 => ?_) (fun c50 => ?_)
              · refine cSeq (cReg (tQ rfl (qMove rfl) (tQ rfl (qMove rfl) (tQ rfl (qLenStr Tryd.runUnderlying9 rfl rfl) (tQ rfl (qEq rfl rfl) (tQ rfl (qAssign rfl) (tQ rfl (qAssign rfl) (tEnd (xThen (cRet (xRetBlock (xRetThen ?_))))))))))))
                refine xRet2 _ _ Tryd.results105 rfl rfl fun w' s' => ⟨congrArg (fun b => Value.tuple #[Value.bool b, Value.int .i64 0]) ?_, s'.toExt (Sub.refl _)⟩
                have hn1 := hn.1
                have hn2 := hn.2
                clear hn
                first
                  | (simp at *
                     first
                       | (subst c46; rw [Bool.eq_iff_iff]; simp [holds]; done)
                       | (subst c50; rw [Bool.eq_iff_iff]; simp [holds]; done)
                       | (subst c50; rw [Bool.eq_iff_iff]; simp [holds]; omega)
                       | (subst c56; rw [Bool.eq_iff_iff]; simp [holds, *]; done)
                       | (subst c56; rw [Bool.eq_iff_iff]; simp [holds]; omega)
                       | (subst c67; rw [Bool.eq_iff_iff]; simp [holds, *]; done)
                       | (subst c67; rw [Bool.eq_iff_iff]; simp [holds]; omega)
                       | (subst c79; simp [holds]; done)
                       | (exfalso; omega))
                  | (have hps : p < s.size := by
                       rcases Nat.lt_or_ge p s.size with h | h
                       · exact h
                       · exfalso; simp [Nat.not_lt.2 h] at *
                     simp only [if_pos hps] at *
                     simp at *
                     subst c84; rw [Bool.eq_iff_iff]; simp [holds]; omega)
                  | (have hps : ¬ p < s.size := by
                       intro h; simp [h] at *
                     simp at *
                     subst c84; rw [Bool.eq_iff_iff]; simp [holds]; omega)
                  | (rw [show (!(wordI s ((p : Int) - 1) == wordI s p)) = wordAt s p from hww]
                     have hn56 : n = 5 ∨ n = 6 := by simp at *; omega
                     rcases hn56 with rfl | rfl <;> simp [holds])
              · refine cSeq (cReg (tQ rfl (qEq rfl rfl) (tQ rfl (qAssign rfl) (tEnd (xThen ?_)))))
                refine cIf rfl (fun c56 => ?_) (fun c56 => ?_)
                · refine cSeq (cReg (tQ rfl (qMove rfl) (tQ rfl (qEq rfl rfl) (tQ rfl (qMove rfl) ?_))))
                  refine tCase 60 rfl (fun g60 => ?_) (fun g60 => ?_)
                  · refine tNo rfl rfl rfl rfl (tNo rfl rfl rfl rfl (tNo rfl rfl rfl rfl (tNo rfl rfl rfl rfl (tNo rfl rfl rfl rfl (tQ rfl (qPickT rfl rfl) (tQ rfl (qAssign rfl) (tQ rfl (qAssign rfl) (tEnd (xThen (cRet (xRetBlock (xRetThen ?_))))))))))))
                    refine xRet2 _ _ Tryd.results105 rfl rfl fun w' s' => ⟨congrArg (fun b => Value.tuple #[Value.bool b, Value.int .i64 0]) ?_, s'.toExt (Sub.refl _)⟩
                    have hn1 := hn.1
                    have hn2 := hn.2
                    clear hn
                    first
                      | (simp at *
                         first
                           | (subst c46; rw [Bool.eq_iff_iff]; simp [holds]; done)
                           | (subst c50; rw [Bool.eq_iff_iff]; simp [holds]; done)
                           | (subst c50; rw [Bool.eq_iff_iff]; simp [holds]; omega)
                           | (subst c56; rw [Bool.eq_iff_iff]; simp [holds, *]; done)
                           | (subst c56; rw [Bool.eq_iff_iff]; simp [holds]; omega)
                           | (subst c67; rw [Bool.eq_iff_iff]; simp [holds, *]; done)
                           | (subst c67; rw [Bool.eq_iff_iff]; simp [holds]; omega)
                           | (subst c79; simp [holds]; done)
                           | (exfalso; omega))
                      | (have hps : p < s.size := by
                           rcases Nat.lt_or_ge p s.size with h | h
                           · exact h
                           · exfalso; simp [Nat.not_lt.2 h] at *
                         simp only [if_pos hps] at *
                         simp at *
                         subst c84; rw [Bool.eq_iff_iff]; simp [holds]; omega)
                      | (have hps : ¬ p < s.size := by
                           intro h; simp [h] at *
                         simp at *
                         subst c84; rw [Bool.eq_iff_iff]; simp [holds]; omega)
                      | (rw [show (!(wordI s ((p : Int) - 1) == wordI s p)) = wordAt s p from hww]
                         have hn56 : n = 5 ∨ n = 6 := by simp at *; omega
                         rcases hn56 with rfl | rfl <;> simp [holds])
                  · have h0 : 0 < p := by simp at g60; omega
                    refine tGo rfl rfl (tQ rfl (qMove rfl) (tGo rfl rfl (tQ rfl (qMove rfl) (tGo rfl rfl (tQ rfl (qSub rfl rfl (w64 (by omega) (by omega))) (tGo rfl rfl (tQ rfl (qIdxStrB Tryd.runUnderlying9 rfl rfl (j := p - 1) (by omega) (by omega)) (tGo rfl rfl (tQ rfl (qEq rfl rfl) (tQ rfl (qPickF rfl rfl) (tQ rfl (qAssign rfl) ?_)))))))))))
                    refine tQ rfl (qAssign rfl) (tEnd (xThen (cRet (xRetBlock (xRetThen ?_)))))
                    refine xRet2 _ _ Tryd.results105 rfl rfl fun w' s' => ⟨congrArg (fun b => Value.tuple #[Value.bool b, Value.int .i64 0]) ?_, s'.toExt (Sub.refl _)⟩
                    have hn1 := hn.1
                    have hn2 := hn.2
                    clear hn
                    first
                      | (simp at *
                         first
                           | (subst c46; rw [Bool.eq_iff_iff]; simp [holds]; done)
                           | (subst c50; rw [Bool.eq_iff_iff]; simp [holds]; done)
                           | (subst c50; rw [Bool.eq_iff_iff]; simp [holds]; omega)
                           | (subst c56; rw [Bool.eq_iff_iff]; simp [holds, *]; done)
                           | (subst c56; rw [Bool.eq_iff_iff]; simp [holds]; omega)
                           | (subst c67; rw [Bool.eq_iff_iff]; simp [holds, *]; done)
                           | (subst c67; rw [Bool.eq_iff_iff]; simp [holds]; omega)
                           | (subst c79; simp [holds]; done)
                           | (exfalso; omega))
                      | (have hps : p < s.size := by
                           rcases Nat.lt_or_ge p s.size with h | h
                           · exact h
                           · exfalso; simp [Nat.not_lt.2 h] at *
                         simp only [if_pos hps] at *
                         simp at *
                         subst c84; rw [Bool.eq_iff_iff]; simp [holds]; omega)
                      | (have hps : ¬ p < s.size := by
                           intro h; simp [h] at *
                         simp at *
                         subst c84; rw [Bool.eq_iff_iff]; simp [holds]; omega)
                      | (rw [show (!(wordI s ((p : Int) - 1) == wordI s p)) = wordAt s p from hww]
                         have hn56 : n = 5 ∨ n = 6 := by simp at *; omega
                         rcases hn56 with rfl | rfl <;> simp [holds])
                · refine cSeq (cReg (tQ rfl (qEq rfl rfl) (tQ rfl (qAssign rfl) (tEnd (xThen ?_)))))
                  refine cIf rfl (fun c67 => ?_) (fun c67 => ?_)
                  · refine cSeq (cReg (tQ rfl (qMove rfl) (tQ rfl (qMove rfl) (tQ rfl (qLenStr Tryd.runUnderlying9 rfl rfl) (tQ rfl (qEq rfl rfl) (tQ rfl (qMove rfl) ?_))))))
                    refine tCase 73 rfl (fun g73 => ?_) (fun g73 => ?_)
                    · refine tNo rfl rfl rfl rfl (tNo rfl rfl rfl rfl (tNo rfl rfl rfl rfl (tNo rfl rfl rfl rfl (tQ rfl (qPickT rfl rfl) (tQ rfl (qAssign rfl) (tQ rfl (qAssign rfl) (tEnd (xThen (cRet (xRetBlock (xRetThen ?_)))))))))))
                      refine xRet2 _ _ Tryd.results105 rfl rfl fun w' s' => ⟨congrArg (fun b => Value.tuple #[Value.bool b, Value.int .i64 0]) ?_, s'.toExt (Sub.refl _)⟩
                      have hn1 := hn.1
                      have hn2 := hn.2
                      clear hn
                      first
                        | (simp at *
                           first
                             | (subst c46; rw [Bool.eq_iff_iff]; simp [holds]; done)
                             | (subst c50; rw [Bool.eq_iff_iff]; simp [holds]; done)
                             | (subst c50; rw [Bool.eq_iff_iff]; simp [holds]; omega)
                             | (subst c56; rw [Bool.eq_iff_iff]; simp [holds, *]; done)
                             | (subst c56; rw [Bool.eq_iff_iff]; simp [holds]; omega)
                             | (subst c67; rw [Bool.eq_iff_iff]; simp [holds, *]; done)
                             | (subst c67; rw [Bool.eq_iff_iff]; simp [holds]; omega)
                             | (subst c79; simp [holds]; done)
                             | (exfalso; omega))
                        | (have hps : p < s.size := by
                             rcases Nat.lt_or_ge p s.size with h | h
                             · exact h
                             · exfalso; simp [Nat.not_lt.2 h] at *
                           simp only [if_pos hps] at *
                           simp at *
                           subst c84; rw [Bool.eq_iff_iff]; simp [holds]; omega)
                        | (have hps : ¬ p < s.size := by
                             intro h; simp [h] at *
                           simp at *
                           subst c84; rw [Bool.eq_iff_iff]; simp [holds]; omega)
                        | (rw [show (!(wordI s ((p : Int) - 1) == wordI s p)) = wordAt s p from hww]
                           have hn56 : n = 5 ∨ n = 6 := by simp at *; omega
                           rcases hn56 with rfl | rfl <;> simp [holds])
                    · have h0 : p < s.size := by simp at g73; omega
                      refine tGo rfl rfl (tQ rfl (qMove rfl) (tGo rfl rfl (tQ rfl (qMove rfl) (tGo rfl rfl (tQ rfl (qIdxStrB Tryd.runUnderlying9 rfl rfl (j := p) (by omega) (by omega)) (tGo rfl rfl (tQ rfl (qEq rfl rfl) (tQ rfl (qPickF rfl rfl) (tQ rfl (qAssign rfl) (tQ rfl (qAssign rfl) (tEnd (xThen (cRet (xRetBlock (xRetThen ?_)))))))))))))))
                      refine xRet2 _ _ Tryd.results105 rfl rfl fun w' s' => ⟨congrArg (fun b => Value.tuple #[Value.bool b, Value.int .i64 0]) ?_, s'.toExt (Sub.refl _)⟩
                      have hn1 := hn.1
                      have hn2 := hn.2
                      clear hn
                      first
                        | (simp at *
                           first
                             | (subst c46; rw [Bool.eq_iff_iff]; simp [holds]; done)
                             | (subst c50; rw [Bool.eq_iff_iff]; simp [holds]; done)
                             | (subst c50; rw [Bool.eq_iff_iff]; simp [holds]; omega)
                             | (subst c56; rw [Bool.eq_iff_iff]; simp [holds, *]; done)
                             | (subst c56; rw [Bool.eq_iff_iff]; simp [holds]; omega)
                             | (subst c67; rw [Bool.eq_iff_iff]; simp [holds, *]; done)
                             | (subst c67; rw [Bool.eq_iff_iff]; simp [holds]; omega)
                             | (subst c79; simp [holds]; done)
                             | (exfalso; omega))
                        | (have hps : p < s.size := by
                             rcases Nat.lt_or_ge p s.size with h | h
                             · exact h
                             · exfalso; simp [Nat.not_lt.2 h] at *
                           simp only [if_pos hps] at *
                           simp at *
                           subst c84; rw [Bool.eq_iff_iff]; simp [holds]; omega)
                        | (have hps : ¬ p < s.size := by
                             intro h; simp [h] at *
                           simp at *
                           subst c84; rw [Bool.eq_iff_iff]; simp [holds]; omega)
                        | (rw [show (!(wordI s ((p : Int) - 1) == wordI s p)) = wordAt s p from hww]
                           have hn56 : n = 5 ∨ n = 6 := by simp at *; omega
                           rcases hn56 with rfl | rfl <;> simp [holds])
                  · refine cSeq (cReg (tQ rfl (qEq rfl rfl) (tQ rfl (qAssign rfl) (tEnd (xThen ?_)))))
                    refine cIf rfl (fun c79 => ?_) (fun c79 => ?_)
                    · refine cSeq (cReg (tQ rfl (qMove rfl) (tQ rfl (qMove rfl) (tCallQ rfl Tryd.call100 (first := []) (captured := []) rfl rfl (fun w' s' => borderU (hF.trans s'.sub) hT ⟨by omega, by omega⟩ hs) (tQ rfl (qAssign rfl) (tQ rfl (qAssign rfl) (tEnd (xThen (cRet (xRetBlock (xRetThen ?_)))))))))))
                      refine xRet2 _ _ Tryd.results105 rfl rfl fun w' s' => ⟨congrArg (fun b => Value.tuple #[Value.bool b, Value.int .i64 0]) ?_, s'.toExt (Sub.refl _)⟩
                      have hn1 := hn.1
                      have hn2 := hn.2
                      clear hn
                      first
                        | (simp at *
                           first
                             | (subst c46; rw [Bool.eq_iff_iff]; simp [holds]; done)
                             | (subst c50; rw [Bool.eq_iff_iff]; simp [holds]; done)
                             | (subst c50; rw [Bool.eq_iff_iff]; simp [holds]; omega)
                             | (subst c56; rw [Bool.eq_iff_iff]; simp [holds, *]; done)
                             | (subst c56; rw [Bool.eq_iff_iff]; simp [holds]; omega)
                             | (subst c67; rw [Bool.eq_iff_iff]; simp [holds, *]; done)
                             | (subst c67; rw [Bool.eq_iff_iff]; simp [holds]; omega)
                             | (subst c79; simp [holds]; done)
                             | (exfalso; omega))
                        | (have hps : p < s.size := by
                             rcases Nat.lt_or_ge p s.size with h | h
                             · exact h
                             · exfalso; simp [Nat.not_lt.2 h] at *
                           simp only [if_pos hps] at *
                           simp at *
                           subst c84; rw [Bool.eq_iff_iff]; simp [holds]; omega)
                        | (have hps : ¬ p < s.size := by
                             intro h; simp [h] at *
                           simp at *
                           subst c84; rw [Bool.eq_iff_iff]; simp [holds]; omega)
                        | (rw [show (!(wordI s ((p : Int) - 1) == wordI s p)) = wordAt s p from hww]
                           have hn56 : n = 5 ∨ n = 6 := by simp at *; omega
                           rcases hn56 with rfl | rfl <;> simp [holds])
                    · refine cSeq (cReg (tQ rfl (qEq rfl rfl) (tQ rfl (qAssign rfl) (tEnd (xThen ?_)))))
                      refine cIf rfl (fun c84 => ?_) (fun c84 => ?_)
                      · refine cSeq (cReg (tQ rfl (qMove rfl) (tQ rfl (qMove rfl) (tCallQ rfl Tryd.call139 (first := []) (captured := []) rfl rfl (fun w' s' => nextT hple hs) (tQ rfl (qMove rfl) (tQ rfl (qExtract rfl rfl) (tQ rfl (qExtract rfl rfl) (tQ rfl (qExtract rfl rfl) (tQ rfl (qAssign rfl) (tQ rfl (qAssign rfl) (tQ rfl (qAssign rfl) (tEnd (xThen (cSeq (cReg ?_)))))))))))))))
                        refine tQ rfl (qMove rfl) (tQ rfl (qNe rfl rfl) (tQ rfl (qMove rfl) ?_))
                        refine tCase 95 rfl (fun g95 => ?_) (fun g95 => ?_)
                        · refine tNo rfl rfl rfl rfl (tNo rfl rfl rfl rfl (tQ rfl (qPickT rfl rfl) (tQ rfl (qAssign rfl) (tQ rfl (qAssign rfl) (tEnd (xThen (cRet (xRetBlock (xRetThen ?_)))))))))
                          refine xRet2 _ _ Tryd.results105 rfl rfl fun w' s' => ⟨congrArg (fun b => Value.tuple #[Value.bool b, Value.int .i64 0]) ?_, s'.toExt (Sub.refl _)⟩
                          have hn1 := hn.1
                          have hn2 := hn.2
                          clear hn
                          first
                            | (simp at *
                               first
                                 | (subst c46; rw [Bool.eq_iff_iff]; simp [holds]; done)
                                 | (subst c50; rw [Bool.eq_iff_iff]; simp [holds]; done)
                                 | (subst c50; rw [Bool.eq_iff_iff]; simp [holds]; omega)
                                 | (subst c56; rw [Bool.eq_iff_iff]; simp [holds, *]; done)
                                 | (subst c56; rw [Bool.eq_iff_iff]; simp [holds]; omega)
                                 | (subst c67; rw [Bool.eq_iff_iff]; simp [holds, *]; done)
                                 | (subst c67; rw [Bool.eq_iff_iff]; simp [holds]; omega)
                                 | (subst c79; simp [holds]; done)
                                 | (exfalso; omega))
                            | (have hps : p < s.size := by
                                 rcases Nat.lt_or_ge p s.size with h | h
                                 · exact h
                                 · exfalso; simp [Nat.not_lt.2 h] at *
                               simp only [if_pos hps] at *
                               simp at *
                               subst c84; rw [Bool.eq_iff_iff]; simp [holds]; omega)
                            | (have hps : ¬ p < s.size := by
                                 intro h; simp [h] at *
                               simp at *
                               subst c84; rw [Bool.eq_iff_iff]; simp [holds]; omega)
                            | (rw [show (!(wordI s ((p : Int) - 1) == wordI s p)) = wordAt s p from hww]
                               have hn56 : n = 5 ∨ n = 6 := by simp at *; omega
                               rcases hn56 with rfl | rfl <;> simp [holds])
                        · refine tGo rfl rfl (tQ rfl (qMove rfl) (tGo rfl rfl (tQ rfl (qGe rfl rfl) (tQ rfl (qPickF rfl rfl) (tQ rfl (qAssign rfl) (tQ rfl (qAssign rfl) (tEnd (xThen (cRet (xRetBlock (xRetThen ?_)))))))))))
                          refine xRet2 _ _ Tryd.results105 rfl rfl fun w' s' => ⟨congrArg (fun b => Value.tuple #[Value.bool b, Value.int .i64 0]) ?_, s'.toExt (Sub.refl _)⟩
                          have hn1 := hn.1
                          have hn2 := hn.2
                          clear hn
                          first
                            | (simp at *
                               first
                                 | (subst c46; rw [Bool.eq_iff_iff]; simp [holds]; done)
                                 | (subst c50; rw [Bool.eq_iff_iff]; simp [holds]; done)
                                 | (subst c50; rw [Bool.eq_iff_iff]; simp [holds]; omega)
                                 | (subst c56; rw [Bool.eq_iff_iff]; simp [holds, *]; done)
                                 | (subst c56; rw [Bool.eq_iff_iff]; simp [holds]; omega)
                                 | (subst c67; rw [Bool.eq_iff_iff]; simp [holds, *]; done)
                                 | (subst c67; rw [Bool.eq_iff_iff]; simp [holds]; omega)
                                 | (subst c79; simp [holds]; done)
                                 | (exfalso; omega))
                            | (have hps : p < s.size := by
                                 rcases Nat.lt_or_ge p s.size with h | h
                                 · exact h
                                 · exfalso; simp [Nat.not_lt.2 h] at *
                               simp only [if_pos hps] at *
                               simp at *
                               subst c84; rw [Bool.eq_iff_iff]; simp [holds]; omega)
                            | (have hps : ¬ p < s.size := by
                                 intro h; simp [h] at *
                               simp at *
                               subst c84; rw [Bool.eq_iff_iff]; simp [holds]; omega)
                            | (rw [show (!(wordI s ((p : Int) - 1) == wordI s p)) = wordAt s p from hww]
                               have hn56 : n = 5 ∨ n = 6 := by simp at *; omega
                               rcases hn56 with rfl | rfl <;> simp [holds])
                      · refine cSkip (xBlock (xThen (cSeq (cReg (tQ rfl (qMove rfl) (tQ rfl (qMove rfl) (tQ rfl (qSub rfl rfl (w64 (by omega) (by omega))) (tCallQ rfl Tryd.call140 (first := []) (captured := []) rfl rfl (fun w' s' => wordP ⟨by omega, by omega⟩ hs) (tQ rfl (qMove rfl) (tQ rfl (qMove rfl) (tCallQ rfl Tryd.call140 (first := []) (captured := []) rfl rfl (fun w' s' => wordP ⟨by omega, by omega⟩ hs) (tQ rfl (qBoolNe Tryd.runUnderlying4 rfl rfl) (tQ rfl (qMove rfl) (tQ rfl (qEq rfl rfl) (tQ rfl (qBoolEq Tryd.runUnderlying4 rfl rfl) ?_)))))))))))))))
                        refine tQ rfl (qAssign rfl) (tQ rfl (qAssign rfl) (tEnd (xThen (cRet ?_))))
                        refine xRet2 _ _ Tryd.results105 rfl rfl fun w' s' => ⟨congrArg (fun b => Value.tuple #[Value.bool b, Value.int .i64 0]) ?_, s'.toExt (Sub.refl _)⟩
                        have hn1 := hn.1
                        have hn2 := hn.2
                        clear hn
                        first
                          | (simp at *
                             first
                               | (subst c46; rw [Bool.eq_iff_iff]; simp [holds]; done)
                               | (subst c50; rw [Bool.eq_iff_iff]; simp [holds]; done)
                               | (subst c50; rw [Bool.eq_iff_iff]; simp [holds]; omega)
                               | (subst c56; rw [Bool.eq_iff_iff]; simp [holds, *]; done)
                               | (subst c56; rw [Bool.eq_iff_iff]; simp [holds]; omega)
                               | (subst c67; rw [Bool.eq_iff_iff]; simp [holds, *]; done)
                               | (subst c67; rw [Bool.eq_iff_iff]; simp [holds]; omega)
                               | (subst c79; simp [holds]; done)
                               | (exfalso; omega))
                          | (have hps : p < s.size := by
                               rcases Nat.lt_or_ge p s.size with h | h
                               · exact h
                               · exfalso; simp [Nat.not_lt.2 h] at *
                             simp only [if_pos hps] at *
                             simp at *
                             subst c84; rw [Bool.eq_iff_iff]; simp [holds]; omega)
                          | (have hps : ¬ p < s.size := by
                               intro h; simp [h] at *
                             simp at *
                             subst c84; rw [Bool.eq_iff_iff]; simp [holds]; omega)
                          | (rw [show (!(wordI s ((p : Int) - 1) == wordI s p)) = wordAt s p from hww]
                             have hn56 : n = 5 ∨ n = 6 := by simp at *; omega
                             rcases hn56 with rfl | rfl <;> simp [holds])

theorem lookF {F : Hp} {w : World} {s : ByteArray} {p : Nat} {n : Int} (hF : Sub F (hp w)) (hT : T F) (hple : p ≤ s.size) (hs : s.size ≤ 1000000000) (hn : 1 ≤ n ∧ n ≤ 6) (hbd : brd s p) :
    Calls Tryd.prog 105 [.int .i64 n, .string s, .int .i64 p, .bool false].toArray w (fun e w' => e = .returned (.tuple #[.bool (holds n s p), .int .i64 0]) ∧ Ext w w') := by
  have hb := B_lt s p
  have hul := unt_le s p
  have hww := wordI_at s p hple
  refine enter' 110 Tryd.func105 Tryd.ntmps105 rfl rfl (cSeq (cReg (tQ rfl (qAssign rfl) (tQ rfl (qAssign rfl) (tEnd (xThen (cSeq (cSeq (cReg (tQ rfl (qMove rfl) (tQ rfl (qLt rfl rfl) (tQ rfl (qMove rfl) ?_))))))))))))
  refine tCase 15 rfl (fun g15 => ?_) (fun g15 => ?_)
  · refine tNo rfl rfl rfl rfl (tNo rfl rfl rfl rfl (tQ rfl (qPickT rfl rfl) (tQ rfl (qMove rfl) (tNo rfl rfl rfl rfl (tNo rfl rfl rfl rfl (tNo rfl rfl rfl rfl (tNoU rfl rfl rfl (tNoU rfl rfl rfl (tNo rfl rfl rfl rfl (tQ rfl (qPickT rfl rfl) (tEnd (xThen ?_))))))))))))
    refine cIfT rfl (cSeq (cReg (tQ rfl (qAssign rfl) (tQ rfl (qAssign rfl) (tEnd (xThen (cRet (xRetThen ?_))))))))
    exfalso; simp at *; omega
  · refine tGo rfl rfl (tQ rfl (qMove rfl) (tGo rfl rfl (tQ rfl (qGt rfl rfl) (tQ rfl (qPickF rfl rfl) (tQ rfl (qMove rfl) ?_)))))
    refine tCase 19 rfl (fun g19 => ?_) (fun g19 => ?_)
    · refine tNo rfl rfl rfl rfl (tNo rfl rfl rfl rfl (tNo rfl rfl rfl rfl (tNoU rfl rfl rfl (tNoU rfl rfl rfl (tNo rfl rfl rfl rfl (tQ rfl (qPickT rfl rfl) (tEnd (xThen (cIfT rfl (cSeq (cReg (tQ rfl (qAssign rfl) (tQ rfl (qAssign rfl) ?_)))))))))))))
      refine tEnd (xThen (cRet (xRetThen ?_)))
      exfalso; simp at *; omega
    · refine tGo rfl rfl (tQ rfl (qMove rfl) (tGo rfl rfl (tQ rfl (qGt rfl rfl) (tGo rfl rfl (tQ rfl (qMove rfl) ?_)))))
      refine tCase 22 rfl (fun g22 => ?_) (fun g22 => ?_)
      · refine tGo rfl rfl (tQ rfl (qMove rfl) (tGo rfl rfl (tQ rfl (qNot rfl) (tGo rfl rfl (tQ rfl (qPickT rfl rfl) (tQ rfl (qPickF rfl rfl) (tEnd (xThen (cIfT rfl (cSeq (cReg (tQ rfl (qAssign rfl) (tQ rfl (qAssign rfl) ?_)))))))))))))
        refine tEnd (xThen (cRet (xRetThen ?_)))
        exfalso; simp at *; omega
      · refine tNo rfl rfl rfl rfl (tNo rfl rfl rfl rfl (tGo rfl rfl (tQ rfl (qPickF rfl rfl) (tQ rfl (qPickF rfl rfl) (tEnd (xThen (cIfF rfl (cSkip (xThen (cSeq (cSeq (cReg (tQ rfl (qMove rfl) (tQ rfl (qLt rfl rfl) (tQ rfl (qMove rfl) ?_)))))))))))))))
        refine tCase 29 rfl (fun g29 => ?_) (fun g29 => ?_)
        · refine tNo rfl rfl rfl rfl (tNo rfl rfl rfl rfl (tNo rfl rfl rfl rfl (tNo rfl rfl rfl rfl (tQ rfl (qPickT rfl rfl) (tQ rfl (qMove rfl) (tNo rfl rfl rfl rfl (tNo rfl rfl rfl rfl (tNo rfl rfl rfl rfl (tNoU rfl rfl rfl (tNoU rfl rfl rfl (tNoU rfl rfl rfl ?_)))))))))))
          refine tNoU rfl rfl rfl (tNo rfl rfl rfl rfl (tQ rfl (qPickT rfl rfl) (tEnd (xThen (cIfT rfl (cSeq (cReg (tQ rfl (qAssign rfl) (tQ rfl (qAssign rfl) (tEnd (xThen (cRet (xRetThen ?_)))))))))))))
          exfalso; simp at *; first | omega | (simp_all; done)
        · refine tGo rfl rfl (tQ rfl (qMove rfl) (tGo rfl rfl (tQ rfl (qMove rfl) (tGo rfl rfl (tQ rfl (qLenStr Tryd.runUnderlying9 rfl rfl) (tGo rfl rfl (tQ rfl (qGt rfl rfl) (tQ rfl (qPickF rfl rfl) (tQ rfl (qMove rfl) ?_)))))))))
          refine tCase 35 rfl (fun g35 => ?_) (fun g35 => ?_)
          · refine tNo rfl rfl rfl rfl (tNo rfl rfl rfl rfl (tNo rfl rfl rfl rfl (tNoU rfl rfl rfl (tNoU rfl rfl rfl (tNoU rfl rfl rfl (tNoU rfl rfl rfl (tNo rfl rfl rfl rfl (tQ rfl (qPickT rfl rfl) (tEnd (xThen (cIfT rfl (cSeq (cReg ?_)))))))))))))
            refine tQ rfl (qAssign rfl) (tQ rfl (qAssign rfl) (tEnd (xThen (cRet (xRetThen ?_)))))
            exfalso; simp at *; first | omega | (simp_all; done)
          · refine tGo rfl rfl (tQ rfl (qMove rfl) (tGo rfl rfl (tQ rfl (qNot rfl) (tGo rfl rfl (tQ rfl (qMove rfl) (tGo rfl rfl (tQ rfl (qMove rfl) (tGo rfl rfl (tQ rfl (qMove rfl) (tGo rfl rfl (tCallQ rfl Tryd.call100 (first := []) (captured := []) rfl rfl (fun w' s' => borderU (hF.trans s'.sub) hT ⟨by omega, by omega⟩ hs) ?_)))))))))))
            refine tGo rfl rfl (tQ rfl (qNot rfl) (tGo rfl rfl (tQ rfl (qPickT rfl rfl) (tQ rfl (qPickF rfl rfl) (tEnd (xThen ?_))))))
            refine cIf rfl (fun c44 => ?_) (fun c44 => ?_)
            · refine cSeq (cReg (tQ rfl (qAssign rfl) (tQ rfl (qAssign rfl) (tEnd (xThen (cRet (xRetThen ?_)))))))
              exfalso; simp at *; first | omega | (simp_all; done)
            · refine cSkip (xThen (cSeq (cSeq (cReg (tQ rfl (qMove rfl) (tEnd (xThen (cBlock (cSeq (cReg (tQ rfl (qEq rfl rfl) (tQ rfl (qAssign rfl) (tEnd (xThen ?_))))))))))))))
              refine cIf rfl (fun c46 => ?_) (fun c46 => ?_)
              · refine cSeq (cReg (tQ rfl (qMove rfl) (tQ rfl (qEq rfl rfl) (tQ rfl (qAssign rfl) (tQ rfl (qAssign rfl) (tEnd (xThen (cRet (xRetBlock (xRetThen ?_))))))))))
                refine xRet2 _ _ Tryd.results105 rfl rfl fun w' s' => ⟨congrArg (fun b => Value.tuple #[Value.bool b, Value.int .i64 0]) ?_, s'.toExt (Sub.refl _)⟩
                have hn1 := hn.1
                have hn2 := hn.2
                clear hn
                first
                  | (simp at *
                     first
                       | (subst c46; rw [Bool.eq_iff_iff]; simp [holds]; done)
                       | (subst c50; rw [Bool.eq_iff_iff]; simp [holds]; done)
                       | (subst c50; rw [Bool.eq_iff_iff]; simp [holds]; omega)
                       | (subst c56; rw [Bool.eq_iff_iff]; simp [holds, *]; done)
                       | (subst c56; rw [Bool.eq_iff_iff]; simp [holds]; omega)
                       | (subst c67; rw [Bool.eq_iff_iff]; simp [holds, *]; done)
                       | (subst c67; rw [Bool.eq_iff_iff]; simp [holds]; omega)
                       | (subst c79; simp [holds]; done)
                       | (exfalso; omega))
                  | (have hps : p < s.size := by
                       rcases Nat.lt_or_ge p s.size with h | h
                       · exact h
                       · exfalso; simp [Nat.not_lt.2 h] at *
                     simp only [if_pos hps] at *
                     simp at *
                     subst c84; rw [Bool.eq_iff_iff]; simp [holds]; omega)
                  | (have hps : ¬ p < s.size := by
                       intro h; simp [h] at *
                     simp at *
                     subst c84; rw [Bool.eq_iff_iff]; simp [holds]; omega)
                  | (rw [show (!(wordI s ((p : Int) - 1) == wordI s p)) = wordAt s p from hww]
                     have hn56 : n = 5 ∨ n = 6 := by simp at *; omega
                     rcases hn56 with rfl | rfl <;> simp [holds])
              · refine cSeq (cReg (tQ rfl (qEq rfl rfl) (tQ rfl (qAssign rfl) (tEnd (xThen ?_)))))
                refine cIf rfl (fun c50 => ?_) (fun c50 => ?_)
                · refine cSeq (cReg (tQ rfl (qMove rfl) (tQ rfl (qMove rfl) (tQ rfl (qLenStr Tryd.runUnderlying9 rfl rfl) (tQ rfl (qEq rfl rfl) (tQ rfl (qAssign rfl) (tQ rfl (qAssign rfl) (tEnd (xThen (cRet (xRetBlock (xRetThen ?_))))))))))))
                  refine xRet2 _ _ Tryd.results105 rfl rfl fun w' s' => ⟨congrArg (fun b => Value.tuple #[Value.bool b, Value.int .i64 0]) ?_, s'.toExt (Sub.refl _)⟩
                  have hn1 := hn.1
                  have hn2 := hn.2
                  clear hn
                  first
                    | (simp at *
                       first
                         | (subst c46; rw [Bool.eq_iff_iff]; simp [holds]; done)
                         | (subst c50; rw [Bool.eq_iff_iff]; simp [holds]; done)
                         | (subst c50; rw [Bool.eq_iff_iff]; simp [holds]; omega)
                         | (subst c56; rw [Bool.eq_iff_iff]; simp [holds, *]; done)
                         | (subst c56; rw [Bool.eq_iff_iff]; simp [holds]; omega)
                         | (subst c67; rw [Bool.eq_iff_iff]; simp [holds, *]; done)
                         | (subst c67; rw [Bool.eq_iff_iff]; simp [holds]; omega)
                         | (subst c79; simp [holds]; done)
                         | (exfalso; omega))
                    | (have hps : p < s.size := by
                         rcases Nat.lt_or_ge p s.size with h | h
                         · exact h
                         · exfalso; simp [Nat.not_lt.2 h] at *
                       simp only [if_pos hps] at *
                       simp at *
                       subst c84; rw [Bool.eq_iff_iff]; simp [holds]; omega)
                    | (have hps : ¬ p < s.size := by
                         intro h; simp [h] at *
                       simp at *
                       subst c84; rw [Bool.eq_iff_iff]; simp [holds]; omega)
                    | (rw [show (!(wordI s ((p : Int) - 1) == wordI s p)) = wordAt s p from hww]
                       have hn56 : n = 5 ∨ n = 6 := by simp at *; omega
                       rcases hn56 with rfl | rfl <;> simp [holds])
                · refine cSeq (cReg (tQ rfl (qEq rfl rfl) (tQ rfl (qAssign rfl) (tEnd (xThen ?_)))))
                  refine cIf rfl (fun c56 => ?_) (fun c56 => ?_)
                  · refine cSeq (cReg (tQ rfl (qMove rfl) (tQ rfl (qEq rfl rfl) (tQ rfl (qMove rfl) ?_))))
                    refine tCase 60 rfl (fun g60 => ?_) (fun g60 => ?_)
                    · refine tNo rfl rfl rfl rfl (tNo rfl rfl rfl rfl (tNo rfl rfl rfl rfl (tNo rfl rfl rfl rfl (tNo rfl rfl rfl rfl (tQ rfl (qPickT rfl rfl) (tQ rfl (qAssign rfl) (tQ rfl (qAssign rfl) (tEnd (xThen (cRet (xRetBlock (xRetThen ?_))))))))))))
                      refine xRet2 _ _ Tryd.results105 rfl rfl fun w' s' => ⟨congrArg (fun b => Value.tuple #[Value.bool b, Value.int .i64 0]) ?_, s'.toExt (Sub.refl _)⟩
                      have hn1 := hn.1
                      have hn2 := hn.2
                      clear hn
                      first
                        | (simp at *
                           first
                             | (subst c46; rw [Bool.eq_iff_iff]; simp [holds]; done)
                             | (subst c50; rw [Bool.eq_iff_iff]; simp [holds]; done)
                             | (subst c50; rw [Bool.eq_iff_iff]; simp [holds]; omega)
                             | (subst c56; rw [Bool.eq_iff_iff]; simp [holds, *]; done)
                             | (subst c56; rw [Bool.eq_iff_iff]; simp [holds]; omega)
                             | (subst c67; rw [Bool.eq_iff_iff]; simp [holds, *]; done)
                             | (subst c67; rw [Bool.eq_iff_iff]; simp [holds]; omega)
                             | (subst c79; simp [holds]; done)
                             | (exfalso; omega))
                        | (have hps : p < s.size := by
                             rcases Nat.lt_or_ge p s.size with h | h
                             · exact h
                             · exfalso; simp [Nat.not_lt.2 h] at *
                           simp only [if_pos hps] at *
                           simp at *
                           subst c84; rw [Bool.eq_iff_iff]; simp [holds]; omega)
                        | (have hps : ¬ p < s.size := by
                             intro h; simp [h] at *
                           simp at *
                           subst c84; rw [Bool.eq_iff_iff]; simp [holds]; omega)
                        | (rw [show (!(wordI s ((p : Int) - 1) == wordI s p)) = wordAt s p from hww]
                           have hn56 : n = 5 ∨ n = 6 := by simp at *; omega
                           rcases hn56 with rfl | rfl <;> simp [holds])
                    · have h0 : 0 < p := by simp at g60; omega
                      refine tGo rfl rfl (tQ rfl (qMove rfl) (tGo rfl rfl (tQ rfl (qMove rfl) (tGo rfl rfl (tQ rfl (qSub rfl rfl (w64 (by omega) (by omega))) (tGo rfl rfl (tQ rfl (qIdxStrB Tryd.runUnderlying9 rfl rfl (j := p - 1) (by omega) (by omega)) (tGo rfl rfl (tQ rfl (qEq rfl rfl) (tQ rfl (qPickF rfl rfl) (tQ rfl (qAssign rfl) ?_)))))))))))
                      refine tQ rfl (qAssign rfl) (tEnd (xThen (cRet (xRetBlock (xRetThen ?_)))))
                      refine xRet2 _ _ Tryd.results105 rfl rfl fun w' s' => ⟨congrArg (fun b => Value.tuple #[Value.bool b, Value.int .i64 0]) ?_, s'.toExt (Sub.refl _)⟩
                      have hn1 := hn.1
                      have hn2 := hn.2
                      clear hn
                      first
                        | (simp at *
                           first
                             | (subst c46; rw [Bool.eq_iff_iff]; simp [holds]; done)
                             | (subst c50; rw [Bool.eq_iff_iff]; simp [holds]; done)
                             | (subst c50; rw [Bool.eq_iff_iff]; simp [holds]; omega)
                             | (subst c56; rw [Bool.eq_iff_iff]; simp [holds, *]; done)
                             | (subst c56; rw [Bool.eq_iff_iff]; simp [holds]; omega)
                             | (subst c67; rw [Bool.eq_iff_iff]; simp [holds, *]; done)
                             | (subst c67; rw [Bool.eq_iff_iff]; simp [holds]; omega)
                             | (subst c79; simp [holds]; done)
                             | (exfalso; omega))
                        | (have hps : p < s.size := by
                             rcases Nat.lt_or_ge p s.size with h | h
                             · exact h
                             · exfalso; simp [Nat.not_lt.2 h] at *
                           simp only [if_pos hps] at *
                           simp at *
                           subst c84; rw [Bool.eq_iff_iff]; simp [holds]; omega)
                        | (have hps : ¬ p < s.size := by
                             intro h; simp [h] at *
                           simp at *
                           subst c84; rw [Bool.eq_iff_iff]; simp [holds]; omega)
                        | (rw [show (!(wordI s ((p : Int) - 1) == wordI s p)) = wordAt s p from hww]
                           have hn56 : n = 5 ∨ n = 6 := by simp at *; omega
                           rcases hn56 with rfl | rfl <;> simp [holds])
                  · refine cSeq (cReg (tQ rfl (qEq rfl rfl) (tQ rfl (qAssign rfl) (tEnd (xThen ?_)))))
                    refine cIf rfl (fun c67 => ?_) (fun c67 => ?_)
                    · refine cSeq (cReg (tQ rfl (qMove rfl) (tQ rfl (qMove rfl) (tQ rfl (qLenStr Tryd.runUnderlying9 rfl rfl) (tQ rfl (qEq rfl rfl) (tQ rfl (qMove rfl) ?_))))))
                      refine tCase 73 rfl (fun g73 => ?_) (fun g73 => ?_)
                      · refine tNo rfl rfl rfl rfl (tNo rfl rfl rfl rfl (tNo rfl rfl rfl rfl (tNo rfl rfl rfl rfl (tQ rfl (qPickT rfl rfl) (tQ rfl (qAssign rfl) (tQ rfl (qAssign rfl) (tEnd (xThen (cRet (xRetBlock (xRetThen ?_)))))))))))
                        refine xRet2 _ _ Tryd.results105 rfl rfl fun w' s' => ⟨congrArg (fun b => Value.tuple #[Value.bool b, Value.int .i64 0]) ?_, s'.toExt (Sub.refl _)⟩
                        have hn1 := hn.1
                        have hn2 := hn.2
                        clear hn
                        first
                          | (simp at *
                             first
                               | (subst c46; rw [Bool.eq_iff_iff]; simp [holds]; done)
                               | (subst c50; rw [Bool.eq_iff_iff]; simp [holds]; done)
                               | (subst c50; rw [Bool.eq_iff_iff]; simp [holds]; omega)
                               | (subst c56; rw [Bool.eq_iff_iff]; simp [holds, *]; done)
                               | (subst c56; rw [Bool.eq_iff_iff]; simp [holds]; omega)
                               | (subst c67; rw [Bool.eq_iff_iff]; simp [holds, *]; done)
                               | (subst c67; rw [Bool.eq_iff_iff]; simp [holds]; omega)
                               | (subst c79; simp [holds]; done)
                               | (exfalso; omega))
                          | (have hps : p < s.size := by
                               rcases Nat.lt_or_ge p s.size with h | h
                               · exact h
                               · exfalso; simp [Nat.not_lt.2 h] at *
                             simp only [if_pos hps] at *
                             simp at *
                             subst c84; rw [Bool.eq_iff_iff]; simp [holds]; omega)
                          | (have hps : ¬ p < s.size := by
                               intro h; simp [h] at *
                             simp at *
                             subst c84; rw [Bool.eq_iff_iff]; simp [holds]; omega)
                          | (rw [show (!(wordI s ((p : Int) - 1) == wordI s p)) = wordAt s p from hww]
                             have hn56 : n = 5 ∨ n = 6 := by simp at *; omega
                             rcases hn56 with rfl | rfl <;> simp [holds])
                      · have h0 : p < s.size := by simp at g73; omega
                        refine tGo rfl rfl (tQ rfl (qMove rfl) (tGo rfl rfl (tQ rfl (qMove rfl) (tGo rfl rfl (tQ rfl (qIdxStrB Tryd.runUnderlying9 rfl rfl (j := p) (by omega) (by omega)) (tGo rfl rfl (tQ rfl (qEq rfl rfl) (tQ rfl (qPickF rfl rfl) (tQ rfl (qAssign rfl) (tQ rfl (qAssign rfl) (tEnd (xThen (cRet (xRetBlock (xRetThen ?_)))))))))))))))
                        refine xRet2 _ _ Tryd.results105 rfl rfl fun w' s' => ⟨congrArg (fun b => Value.tuple #[Value.bool b, Value.int .i64 0]) ?_, s'.toExt (Sub.refl _)⟩
                        have hn1 := hn.1
                        have hn2 := hn.2
                        clear hn
                        first
                          | (simp at *
                             first
                               | (subst c46; rw [Bool.eq_iff_iff]; simp [holds]; done)
                               | (subst c50; rw [Bool.eq_iff_iff]; simp [holds]; done)
                               | (subst c50; rw [Bool.eq_iff_iff]; simp [holds]; omega)
                               | (subst c56; rw [Bool.eq_iff_iff]; simp [holds, *]; done)
                               | (subst c56; rw [Bool.eq_iff_iff]; simp [holds]; omega)
                               | (subst c67; rw [Bool.eq_iff_iff]; simp [holds, *]; done)
                               | (subst c67; rw [Bool.eq_iff_iff]; simp [holds]; omega)
                               | (subst c79; simp [holds]; done)
                               | (exfalso; omega))
                          | (have hps : p < s.size := by
                               rcases Nat.lt_or_ge p s.size with h | h
                               · exact h
                               · exfalso; simp [Nat.not_lt.2 h] at *
                             simp only [if_pos hps] at *
                             simp at *
                             subst c84; rw [Bool.eq_iff_iff]; simp [holds]; omega)
                          | (have hps : ¬ p < s.size := by
                               intro h; simp [h] at *
                             simp at *
                             subst c84; rw [Bool.eq_iff_iff]; simp [holds]; omega)
                          | (rw [show (!(wordI s ((p : Int) - 1) == wordI s p)) = wordAt s p from hww]
                             have hn56 : n = 5 ∨ n = 6 := by simp at *; omega
                             rcases hn56 with rfl | rfl <;> simp [holds])
                    · refine cSeq (cReg (tQ rfl (qEq rfl rfl) (tQ rfl (qAssign rfl) (tEnd (xThen ?_)))))
                      refine cIf rfl (fun c79 => ?_) (fun c79 => ?_)
                      · refine cSeq (cReg (tQ rfl (qMove rfl) (tQ rfl (qMove rfl) (tCallQ rfl Tryd.call100 (first := []) (captured := []) rfl rfl (fun w' s' => borderU (hF.trans s'.sub) hT ⟨by omega, by omega⟩ hs) (tQ rfl (qAssign rfl) (tQ rfl (qAssign rfl) (tEnd (xThen (cRet (xRetBlock (xRetThen ?_)))))))))))
                        refine xRet2 _ _ Tryd.results105 rfl rfl fun w' s' => ⟨congrArg (fun b => Value.tuple #[Value.bool b, Value.int .i64 0]) ?_, s'.toExt (Sub.refl _)⟩
                        have hn1 := hn.1
                        have hn2 := hn.2
                        clear hn
                        first
                          | (simp at *
                             first
                               | (subst c46; rw [Bool.eq_iff_iff]; simp [holds]; done)
                               | (subst c50; rw [Bool.eq_iff_iff]; simp [holds]; done)
                               | (subst c50; rw [Bool.eq_iff_iff]; simp [holds]; omega)
                               | (subst c56; rw [Bool.eq_iff_iff]; simp [holds, *]; done)
                               | (subst c56; rw [Bool.eq_iff_iff]; simp [holds]; omega)
                               | (subst c67; rw [Bool.eq_iff_iff]; simp [holds, *]; done)
                               | (subst c67; rw [Bool.eq_iff_iff]; simp [holds]; omega)
                               | (subst c79; simp [holds]; done)
                               | (exfalso; omega))
                          | (have hps : p < s.size := by
                               rcases Nat.lt_or_ge p s.size with h | h
                               · exact h
                               · exfalso; simp [Nat.not_lt.2 h] at *
                             simp only [if_pos hps] at *
                             simp at *
                             subst c84; rw [Bool.eq_iff_iff]; simp [holds]; omega)
                          | (have hps : ¬ p < s.size := by
                               intro h; simp [h] at *
                             simp at *
                             subst c84; rw [Bool.eq_iff_iff]; simp [holds]; omega)
                          | (rw [show (!(wordI s ((p : Int) - 1) == wordI s p)) = wordAt s p from hww]
                             have hn56 : n = 5 ∨ n = 6 := by simp at *; omega
                             rcases hn56 with rfl | rfl <;> simp [holds])
                      · refine cSeq (cReg (tQ rfl (qEq rfl rfl) (tQ rfl (qAssign rfl) (tEnd (xThen ?_)))))
                        refine cIf rfl (fun c84 => ?_) (fun c84 => ?_)
                        · refine cSeq (cReg (tQ rfl (qMove rfl) (tQ rfl (qMove rfl) (tCallQ rfl Tryd.call139 (first := []) (captured := []) rfl rfl (fun w' s' => nextT hple hs) (tQ rfl (qMove rfl) (tQ rfl (qExtract rfl rfl) (tQ rfl (qExtract rfl rfl) (tQ rfl (qExtract rfl rfl) (tQ rfl (qAssign rfl) (tQ rfl (qAssign rfl) (tQ rfl (qAssign rfl) (tEnd (xThen (cSeq (cReg ?_)))))))))))))))
                          refine tQ rfl (qMove rfl) (tQ rfl (qNe rfl rfl) (tQ rfl (qMove rfl) ?_))
                          refine tCase 95 rfl (fun g95 => ?_) (fun g95 => ?_)
                          · refine tNo rfl rfl rfl rfl (tNo rfl rfl rfl rfl (tQ rfl (qPickT rfl rfl) (tQ rfl (qAssign rfl) (tQ rfl (qAssign rfl) (tEnd (xThen (cRet (xRetBlock (xRetThen ?_)))))))))
                            refine xRet2 _ _ Tryd.results105 rfl rfl fun w' s' => ⟨congrArg (fun b => Value.tuple #[Value.bool b, Value.int .i64 0]) ?_, s'.toExt (Sub.refl _)⟩
                            have hn1 := hn.1
                            have hn2 := hn.2
                            clear hn
                            first
                              | (simp at *
                                 first
                                   | (subst c46; rw [Bool.eq_iff_iff]; simp [holds]; done)
                                   | (subst c50; rw [Bool.eq_iff_iff]; simp [holds]; done)
                                   | (subst c50; rw [Bool.eq_iff_iff]; simp [holds]; omega)
                                   | (subst c56; rw [Bool.eq_iff_iff]; simp [holds, *]; done)
                                   | (subst c56; rw [Bool.eq_iff_iff]; simp [holds]; omega)
                                   | (subst c67; rw [Bool.eq_iff_iff]; simp [holds, *]; done)
                                   | (subst c67; rw [Bool.eq_iff_iff]; simp [holds]; omega)
                                   | (subst c79; simp [holds]; done)
                                   | (exfalso; omega))
                              | (have hps : p < s.size := by
                                   rcases Nat.lt_or_ge p s.size with h | h
                                   · exact h
                                   · exfalso; simp [Nat.not_lt.2 h] at *
                                 simp only [if_pos hps] at *
                                 simp at *
                                 subst c84; rw [Bool.eq_iff_iff]; simp [holds]; omega)
                              | (have hps : ¬ p < s.size := by
                                   intro h; simp [h] at *
                                 simp at *
                                 subst c84; rw [Bool.eq_iff_iff]; simp [holds]; omega)
                              | (rw [show (!(wordI s ((p : Int) - 1) == wordI s p)) = wordAt s p from hww]
                                 have hn56 : n = 5 ∨ n = 6 := by simp at *; omega
                                 rcases hn56 with rfl | rfl <;> simp [holds])
                          · refine tGo rfl rfl (tQ rfl (qMove rfl) (tGo rfl rfl (tQ rfl (qGe rfl rfl) (tQ rfl (qPickF rfl rfl) (tQ rfl (qAssign rfl) (tQ rfl (qAssign rfl) (tEnd (xThen (cRet (xRetBlock (xRetThen ?_)))))))))))
                            refine xRet2 _ _ Tryd.results105 rfl rfl fun w' s' => ⟨congrArg (fun b => Value.tuple #[Value.bool b, Value.int .i64 0]) ?_, s'.toExt (Sub.refl _)⟩
                            have hn1 := hn.1
                            have hn2 := hn.2
                            clear hn
                            first
                              | (simp at *
                                 first
                                   | (subst c46; rw [Bool.eq_iff_iff]; simp [holds]; done)
                                   | (subst c50; rw [Bool.eq_iff_iff]; simp [holds]; done)
                                   | (subst c50; rw [Bool.eq_iff_iff]; simp [holds]; omega)
                                   | (subst c56; rw [Bool.eq_iff_iff]; simp [holds, *]; done)
                                   | (subst c56; rw [Bool.eq_iff_iff]; simp [holds]; omega)
                                   | (subst c67; rw [Bool.eq_iff_iff]; simp [holds, *]; done)
                                   | (subst c67; rw [Bool.eq_iff_iff]; simp [holds]; omega)
                                   | (subst c79; simp [holds]; done)
                                   | (exfalso; omega))
                              | (have hps : p < s.size := by
                                   rcases Nat.lt_or_ge p s.size with h | h
                                   · exact h
                                   · exfalso; simp [Nat.not_lt.2 h] at *
                                 simp only [if_pos hps] at *
                                 simp at *
                                 subst c84; rw [Bool.eq_iff_iff]; simp [holds]; omega)
                              | (have hps : ¬ p < s.size := by
                                   intro h; simp [h] at *
                                 simp at *
                                 subst c84; rw [Bool.eq_iff_iff]; simp [holds]; omega)
                              | (rw [show (!(wordI s ((p : Int) - 1) == wordI s p)) = wordAt s p from hww]
                                 have hn56 : n = 5 ∨ n = 6 := by simp at *; omega
                                 rcases hn56 with rfl | rfl <;> simp [holds])
                        · refine cSkip (xBlock (xThen (cSeq (cReg (tQ rfl (qMove rfl) (tQ rfl (qMove rfl) (tQ rfl (qSub rfl rfl (w64 (by omega) (by omega))) (tCallQ rfl Tryd.call140 (first := []) (captured := []) rfl rfl (fun w' s' => wordP ⟨by omega, by omega⟩ hs) (tQ rfl (qMove rfl) (tQ rfl (qMove rfl) (tCallQ rfl Tryd.call140 (first := []) (captured := []) rfl rfl (fun w' s' => wordP ⟨by omega, by omega⟩ hs) (tQ rfl (qBoolNe Tryd.runUnderlying4 rfl rfl) (tQ rfl (qMove rfl) (tQ rfl (qEq rfl rfl) (tQ rfl (qBoolEq Tryd.runUnderlying4 rfl rfl) ?_)))))))))))))))
                          refine tQ rfl (qAssign rfl) (tQ rfl (qAssign rfl) (tEnd (xThen (cRet ?_))))
                          refine xRet2 _ _ Tryd.results105 rfl rfl fun w' s' => ⟨congrArg (fun b => Value.tuple #[Value.bool b, Value.int .i64 0]) ?_, s'.toExt (Sub.refl _)⟩
                          have hn1 := hn.1
                          have hn2 := hn.2
                          clear hn
                          first
                            | (simp at *
                               first
                                 | (subst c46; rw [Bool.eq_iff_iff]; simp [holds]; done)
                                 | (subst c50; rw [Bool.eq_iff_iff]; simp [holds]; done)
                                 | (subst c50; rw [Bool.eq_iff_iff]; simp [holds]; omega)
                                 | (subst c56; rw [Bool.eq_iff_iff]; simp [holds, *]; done)
                                 | (subst c56; rw [Bool.eq_iff_iff]; simp [holds]; omega)
                                 | (subst c67; rw [Bool.eq_iff_iff]; simp [holds, *]; done)
                                 | (subst c67; rw [Bool.eq_iff_iff]; simp [holds]; omega)
                                 | (subst c79; simp [holds]; done)
                                 | (exfalso; omega))
                            | (have hps : p < s.size := by
                                 rcases Nat.lt_or_ge p s.size with h | h
                                 · exact h
                                 · exfalso; simp [Nat.not_lt.2 h] at *
                               simp only [if_pos hps] at *
                               simp at *
                               subst c84; rw [Bool.eq_iff_iff]; simp [holds]; omega)
                            | (have hps : ¬ p < s.size := by
                                 intro h; simp [h] at *
                               simp at *
                               subst c84; rw [Bool.eq_iff_iff]; simp [holds]; omega)
                            | (rw [show (!(wordI s ((p : Int) - 1) == wordI s p)) = wordAt s p from hww]
                               have hn56 : n = 5 ∨ n = 6 := by simp at *; omega
                               rcases hn56 with rfl | rfl <;> simp [holds])

end Go.V
