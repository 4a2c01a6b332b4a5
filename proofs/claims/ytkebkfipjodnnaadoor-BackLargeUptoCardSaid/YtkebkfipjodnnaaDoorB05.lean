/-
  Lemmas of this claim's own, part 6: contracts of the functions that the statement reaches, and the plain facts behind them.
-/
import Derived.Test.YtkebkfipjodnnaaDoorB04
set_option linter.unusedVariables false
set_option linter.unusedSimpArgs false
namespace Go.V
open Go.Proofs
set_option linter.unusedVariables false
set_option linter.unusedSimpArgs false

theorem has_ {w : World} {op : Int} : Calls Tryd.prog 145 [.int .i64 op].toArray w (fun e w' => e = .returned (.int .i64 (hasV op)) ∧ Ext w w') := by
  have hcs := hasV_cases op
  refine enter' 18 Tryd.func145 Tryd.ntmps145 rfl rfl (cSeq (cReg (tQ rfl (qAssign rfl) (tEnd (xThen (cSeq (cSeq (cReg (tQ rfl (qMove rfl) (tEnd (xThen (cBlock (cSeq (cReg (tQ rfl (qEq rfl rfl) (tQ rfl (qAssign rfl) (tEnd (xThen ?_))))))))))))))))))
  refine cIf rfl (fun c4 => ?_) (fun c4 => ?_)
  · refine cSeq (cReg (tQ rfl (qAssign rfl) (tEnd (xThen (cRet (xRetBlock (xRetThen ?_)))))))
    refine xRet1 _ Tryd.results145 rfl fun w' s' => ⟨congrArg (Value.int .i64) ?_, s'.toExt (Sub.refl _)⟩
    simp only [Go.V.dsl, reduceCtorEq] at *
    omega
  · refine cSeq (cReg (tQ rfl (qEq rfl rfl) (tQ rfl (qAssign rfl) (tEnd (xThen ?_)))))
    refine cIf rfl (fun c6 => ?_) (fun c6 => ?_)
    · refine cSeq (cReg (tQ rfl (qAssign rfl) (tEnd (xThen (cRet (xRetBlock (xRetThen ?_)))))))
      refine xRet1 _ Tryd.results145 rfl fun w' s' => ⟨congrArg (Value.int .i64) ?_, s'.toExt (Sub.refl _)⟩
      simp only [Go.V.dsl, reduceCtorEq] at *
      omega
    · refine cSeq (cSeq (cReg (tQ rfl (qEq rfl rfl) (tQ rfl (qAssign rfl) (tEnd (xThen ?_))))))
      refine cIf rfl (fun c8 => ?_) (fun c8 => ?_)
      · refine cSkip (xThen ?_)
        refine cIf rfl (fun c8 => ?_) (fun c8 => ?_)
        · refine cSeq (cReg (tQ rfl (qAssign rfl) (tEnd (xThen (cRet (xRetBlock (xRetThen ?_)))))))
          refine xRet1 _ Tryd.results145 rfl fun w' s' => ⟨congrArg (Value.int .i64) ?_, s'.toExt (Sub.refl _)⟩
          simp only [Go.V.dsl, reduceCtorEq] at *
          omega
        · refine cSeq (cReg (tQ rfl (qEq rfl rfl) (tQ rfl (qAssign rfl) (tEnd (xThen ?_)))))
          refine cIf rfl (fun c13 => ?_) (fun c13 => ?_)
          · refine cSeq (cReg (tQ rfl (qAssign rfl) (tEnd (xThen (cRet (xRetBlock (xRetThen ?_)))))))
            refine xRet1 _ Tryd.results145 rfl fun w' s' => ⟨congrArg (Value.int .i64) ?_, s'.toExt (Sub.refl _)⟩
            simp only [Go.V.dsl, reduceCtorEq] at *
            omega
          · refine cSeq (cSeq (cReg (tQ rfl (qEq rfl rfl) (tQ rfl (qAssign rfl) (tEnd (xThen ?_))))))
            refine cIf rfl (fun c15 => ?_) (fun c15 => ?_)
            · refine cSkip (xThen ?_)
              refine cIf rfl (fun c15 => ?_) (fun c15 => ?_)
              · refine cSeq (cReg (tQ rfl (qAssign rfl) (tEnd (xThen (cRet (xRetBlock (xRetThen ?_)))))))
                refine xRet1 _ Tryd.results145 rfl fun w' s' => ⟨congrArg (Value.int .i64) ?_, s'.toExt (Sub.refl _)⟩
                simp only [Go.V.dsl, reduceCtorEq] at *
                omega
              · refine cSkip (xBlock (xThen (cSeq (cReg (tQ rfl (qAssign rfl) (tEnd (xThen (cRet ?_))))))))
                refine xRet1 _ Tryd.results145 rfl fun w' s' => ⟨congrArg (Value.int .i64) ?_, s'.toExt (Sub.refl _)⟩
                simp only [Go.V.dsl, reduceCtorEq] at *
                omega
            · refine cReg (tQ rfl (qEq rfl rfl) (tQ rfl (qAssign rfl) (tEnd (xThen ?_))))
              refine cIf rfl (fun c15 => ?_) (fun c15 => ?_)
              · refine cSeq (cReg (tQ rfl (qAssign rfl) (tEnd (xThen (cRet (xRetBlock (xRetThen ?_)))))))
                refine xRet1 _ Tryd.results145 rfl fun w' s' => ⟨congrArg (Value.int .i64) ?_, s'.toExt (Sub.refl _)⟩
                simp only [Go.V.dsl, reduceCtorEq] at *
                omega
              · refine cSkip (xBlock (xThen (cSeq (cReg (tQ rfl (qAssign rfl) (tEnd (xThen (cRet ?_))))))))
                refine xRet1 _ Tryd.results145 rfl fun w' s' => ⟨congrArg (Value.int .i64) ?_, s'.toExt (Sub.refl _)⟩
                simp only [Go.V.dsl, reduceCtorEq] at *
                omega
      · refine cSeq (cReg (tQ rfl (qEq rfl rfl) (tQ rfl (qAssign rfl) (tEnd (xThen ?_)))))
        refine cIf rfl (fun c8 => ?_) (fun c8 => ?_)
        · refine cSkip (xThen ?_)
          refine cIf rfl (fun c8 => ?_) (fun c8 => ?_)
          · refine cSeq (cReg (tQ rfl (qAssign rfl) (tEnd (xThen (cRet (xRetBlock (xRetThen ?_)))))))
            refine xRet1 _ Tryd.results145 rfl fun w' s' => ⟨congrArg (Value.int .i64) ?_, s'.toExt (Sub.refl _)⟩
            simp only [Go.V.dsl, reduceCtorEq] at *
            omega
          · refine cSeq (cReg (tQ rfl (qEq rfl rfl) (tQ rfl (qAssign rfl) (tEnd (xThen ?_)))))
            refine cIf rfl (fun c13 => ?_) (fun c13 => ?_)
            · refine cSeq (cReg (tQ rfl (qAssign rfl) (tEnd (xThen (cRet (xRetBlock (xRetThen ?_)))))))
              refine xRet1 _ Tryd.results145 rfl fun w' s' => ⟨congrArg (Value.int .i64) ?_, s'.toExt (Sub.refl _)⟩
              simp only [Go.V.dsl, reduceCtorEq] at *
              omega
            · refine cSeq (cSeq (cReg (tQ rfl (qEq rfl rfl) (tQ rfl (qAssign rfl) (tEnd (xThen ?_))))))
              refine cIf rfl (fun c15 => ?_) (fun c15 => ?_)
              · refine cSkip (xThen ?_)
                refine cIf rfl (fun c15 => ?_) (fun c15 => ?_)
                · refine cSeq (cReg (tQ rfl (qAssign rfl) (tEnd (xThen (cRet (xRetBlock (xRetThen ?_)))))))
                  refine xRet1 _ Tryd.results145 rfl fun w' s' => ⟨congrArg (Value.int .i64) ?_, s'.toExt (Sub.refl _)⟩
                  simp only [Go.V.dsl, reduceCtorEq] at *
                  omega
                · refine cSkip (xBlock (xThen (cSeq (cReg (tQ rfl (qAssign rfl) (tEnd (xThen (cRet ?_))))))))
                  refine xRet1 _ Tryd.results145 rfl fun w' s' => ⟨congrArg (Value.int .i64) ?_, s'.toExt (Sub.refl _)⟩
                  simp only [Go.V.dsl, reduceCtorEq] at *
                  omega
              · refine cReg (tQ rfl (qEq rfl rfl) (tQ rfl (qAssign rfl) (tEnd (xThen ?_))))
                refine cIf rfl (fun c15 => ?_) (fun c15 => ?_)
                · refine cSeq (cReg (tQ rfl (qAssign rfl) (tEnd (xThen (cRet (xRetBlock (xRetThen ?_)))))))
                  refine xRet1 _ Tryd.results145 rfl fun w' s' => ⟨congrArg (Value.int .i64) ?_, s'.toExt (Sub.refl _)⟩
                  simp only [Go.V.dsl, reduceCtorEq] at *
                  omega
                · refine cSkip (xBlock (xThen (cSeq (cReg (tQ rfl (qAssign rfl) (tEnd (xThen (cRet ?_))))))))
                  refine xRet1 _ Tryd.results145 rfl fun w' s' => ⟨congrArg (Value.int .i64) ?_, s'.toExt (Sub.refl _)⟩
                  simp only [Go.V.dsl, reduceCtorEq] at *
                  omega
        · refine cSeq (cReg (tQ rfl (qEq rfl rfl) (tQ rfl (qAssign rfl) (tEnd (xThen ?_)))))
          refine cIf rfl (fun c8 => ?_) (fun c8 => ?_)
          · refine cSkip (xThen ?_)
            refine cIf rfl (fun c8 => ?_) (fun c8 => ?_)
            · refine cSeq (cReg (tQ rfl (qAssign rfl) (tEnd (xThen (cRet (xRetBlock (xRetThen ?_)))))))
              refine xRet1 _ Tryd.results145 rfl fun w' s' => ⟨congrArg (Value.int .i64) ?_, s'.toExt (Sub.refl _)⟩
              simp only [Go.V.dsl, reduceCtorEq] at *
              omega
            · refine cSeq (cReg (tQ rfl (qEq rfl rfl) (tQ rfl (qAssign rfl) (tEnd (xThen ?_)))))
              refine cIf rfl (fun c13 => ?_) (fun c13 => ?_)
              · refine cSeq (cReg (tQ rfl (qAssign rfl) (tEnd (xThen (cRet (xRetBlock (xRetThen ?_)))))))
                refine xRet1 _ Tryd.results145 rfl fun w' s' => ⟨congrArg (Value.int .i64) ?_, s'.toExt (Sub.refl _)⟩
                simp only [Go.V.dsl, reduceCtorEq] at *
                omega
              · refine cSeq (cSeq (cReg (tQ rfl (qEq rfl rfl) (tQ rfl (qAssign rfl) (tEnd (xThen ?_))))))
                refine cIf rfl (fun c15 => ?_) (fun c15 => ?_)
                · refine cSkip (xThen ?_)
                  refine cIf rfl (fun c15 => ?_) (fun c15 => ?_)
                  · refine cSeq (cReg (tQ rfl (qAssign rfl) (tEnd (xThen (cRet (xRetBlock (xRetThen ?_)))))))
                    refine xRet1 _ Tryd.results145 rfl fun w' s' => ⟨congrArg (Value.int .i64) ?_, s'.toExt (Sub.refl _)⟩
                    simp only [Go.V.dsl, reduceCtorEq] at *
                    omega
                  · refine cSkip (xBlock (xThen (cSeq (cReg (tQ rfl (qAssign rfl) (tEnd (xThen (cRet ?_))))))))
                    refine xRet1 _ Tryd.results145 rfl fun w' s' => ⟨congrArg (Value.int .i64) ?_, s'.toExt (Sub.refl _)⟩
                    simp only [Go.V.dsl, reduceCtorEq] at *
                    omega
                · refine cReg (tQ rfl (qEq rfl rfl) (tQ rfl (qAssign rfl) (tEnd (xThen ?_))))
                  refine cIf rfl (fun c15 => ?_) (fun c15 => ?_)
                  · refine cSeq (cReg (tQ rfl (qAssign rfl) (tEnd (xThen (cRet (xRetBlock (xRetThen ?_)))))))
                    refine xRet1 _ Tryd.results145 rfl fun w' s' => ⟨congrArg (Value.int .i64) ?_, s'.toExt (Sub.refl _)⟩
                    simp only [Go.V.dsl, reduceCtorEq] at *
                    omega
                  · refine cSkip (xBlock (xThen (cSeq (cReg (tQ rfl (qAssign rfl) (tEnd (xThen (cRet ?_))))))))
                    refine xRet1 _ Tryd.results145 rfl fun w' s' => ⟨congrArg (Value.int .i64) ?_, s'.toExt (Sub.refl _)⟩
                    simp only [Go.V.dsl, reduceCtorEq] at *
                    omega
          · refine cReg (tQ rfl (qEq rfl rfl) (tQ rfl (qAssign rfl) (tEnd (xThen ?_))))
            refine cIf rfl (fun c8 => ?_) (fun c8 => ?_)
            · refine cSeq (cReg (tQ rfl (qAssign rfl) (tEnd (xThen (cRet (xRetBlock (xRetThen ?_)))))))
              refine xRet1 _ Tryd.results145 rfl fun w' s' => ⟨congrArg (Value.int .i64) ?_, s'.toExt (Sub.refl _)⟩
              simp only [Go.V.dsl, reduceCtorEq] at *
              omega
            · refine cSeq (cReg (tQ rfl (qEq rfl rfl) (tQ rfl (qAssign rfl) (tEnd (xThen ?_)))))
              refine cIf rfl (fun c13 => ?_) (fun c13 => ?_)
              · refine cSeq (cReg (tQ rfl (qAssign rfl) (tEnd (xThen (cRet (xRetBlock (xRetThen ?_)))))))
                refine xRet1 _ Tryd.results145 rfl fun w' s' => ⟨congrArg (Value.int .i64) ?_, s'.toExt (Sub.refl _)⟩
                simp only [Go.V.dsl, reduceCtorEq] at *
                omega
              · refine cSeq (cSeq (cReg (tQ rfl (qEq rfl rfl) (tQ rfl (qAssign rfl) (tEnd (xThen ?_))))))
                refine cIf rfl (fun c15 => ?_) (fun c15 => ?_)
                · refine cSkip (xThen ?_)
                  refine cIf rfl (fun c15 => ?_) (fun c15 => ?_)
                  · refine cSeq (cReg (tQ rfl (qAssign rfl) (tEnd (xThen (cRet (xRetBlock (xRetThen ?_)))))))
                    refine xRet1 _ Tryd.results145 rfl fun w' s' => ⟨congrArg (Value.int .i64) ?_, s'.toExt (Sub.refl _)⟩
                    simp only [Go.V.dsl, reduceCtorEq] at *
                    omega
                  · refine cSkip (xBlock (xThen (cSeq (cReg (tQ rfl (qAssign rfl) (tEnd (xThen (cRet ?_))))))))
                    refine xRet1 _ Tryd.results145 rfl fun w' s' => ⟨congrArg (Value.int .i64) ?_, s'.toExt (Sub.refl _)⟩
                    simp only [Go.V.dsl, reduceCtorEq] at *
                    omega
                · refine cReg (tQ rfl (qEq rfl rfl) (tQ rfl (qAssign rfl) (tEnd (xThen ?_))))
                  refine cIf rfl (fun c15 => ?_) (fun c15 => ?_)
                  · refine cSeq (cReg (tQ rfl (qAssign rfl) (tEnd (xThen (cRet (xRetBlock (xRetThen ?_)))))))
                    refine xRet1 _ Tryd.results145 rfl fun w' s' => ⟨congrArg (Value.int .i64) ?_, s'.toExt (Sub.refl _)⟩
                    simp only [Go.V.dsl, reduceCtorEq] at *
                    omega
                  · refine cSkip (xBlock (xThen (cSeq (cReg (tQ rfl (qAssign rfl) (tEnd (xThen (cRet ?_))))))))
                    refine xRet1 _ Tryd.results145 rfl fun w' s' => ⟨congrArg (Value.int .i64) ?_, s'.toExt (Sub.refl _)⟩
                    simp only [Go.V.dsl, reduceCtorEq] at *
                    omega

def plc (h bit : Nat) (v n : Int) : Prop := (h &&& bit = 0 ∧ v = 0) ∨ (h &&& bit ≠ 0 ∧ 0 ≤ v ∧ v < n)
set_option maxHeartbeats 1000000 in
theorem instOk_has {x : Ins} {n g : Int} {raw : Bool} {h : Nat} (hh : hasV x.op = (h : Int)) : instOk x n g raw ↔ plc h 1 x.x n ∧ plc h 2 x.y n ∧ ((h &&& 4 = 0 ∧ x.n = 0) ∨ (h &&& 4 ≠ 0 ∧ ((x.op = 3 ∧ 2 ≤ x.n ∧ x.n ≤ 2 * g + 1) ∨ (x.op = 4 ∧ 1 ≤ x.n ∧ (x.n ≤ 6 ∨ (raw = true ∧ x.n ≤ 8))) ∨ (x.op ≠ 3 ∧ x.op ≠ 4 ∧ 0 ≤ x.n ∧ x.n ≤ 63)))) ∧
    ((h &&& 8 = 0 ∧ x.set.length = 0) ∨ (h &&& 8 ≠ 0 ∧ setE x.set = 0 ∧ (raw = false ∨ x.set.length = 0 ∨ (gR x.set (x.set.length - 1)).hi ≤ 255))) := by
  obtain ⟨op, set, xx, xy, xn⟩ := x
  simp only at hh ⊢
  have hc := hasV_cases op
  have ho : (op = 1 ∧ h = 9) ∨ (op = 2 ∧ h = 3) ∨ (op = 3 ∧ h = 5) ∨ (op = 4 ∧ h = 5) ∨ (op = 5 ∧ h = 5) ∨ (op = 6 ∧ h = 5) ∨ (op = 9 ∧ h = 1) ∨ (op = 7 ∧ h = 0) ∨ (op = 8 ∧ h = 0) := by omega
  unfold instOk plc
  simp only
  generalize setE set = es
  generalize (gR set (set.length - 1)).hi = hi
  generalize set.length = l
  clear hc hh
  rcases ho with ⟨rfl, rfl⟩ | ⟨rfl, rfl⟩ | ⟨rfl, rfl⟩ | ⟨rfl, rfl⟩ | ⟨rfl, rfl⟩ | ⟨rfl, rfl⟩ | ⟨rfl, rfl⟩ | ⟨rfl, rfl⟩ | ⟨rfl, rfl⟩ <;> cases raw <;> simp <;> omega
theorem place_ {F : Hp} {w : World} {x cnt : Int} {h bit b1 b2 : Nat} (hF : Sub F (hp w)) (hh : h < 16) (hb : bit < 16) (h1 : at1 F b1 0 = some (.int .i64 h)) (h2 : at1 F b2 0 = some (.int .i64 cnt)) :
    Calls Tryd.prog 146 [.int .i64 x, .int .i64 bit, .pointer (some ⟨b1, 0, none⟩), .pointer (some ⟨b2, 0, none⟩)].toArray w (fun e w' => e = .returned (.bool (decide ((h &&& bit = 0 ∧ x = 0) ∨ (h &&& bit ≠ 0 ∧ 0 ≤ x ∧ x < cnt)))) ∧ Ext w w') := by
  replace h1 := at1_mono hF h1
  replace h2 := at1_mono hF h2
  refine enter' 20 Tryd.func146 Tryd.ntmps146 rfl rfl (cSeq (cReg (tQ rfl (qAssign rfl) (tEnd (xThen (cSeq (cSeq (cReg (tQ rfl (qLd1 Tryd.isAgg3 rfl h1) (tQ rfl (qMove rfl) (tQ rfl (qAnd rfl rfl (c := ((h &&& bit : Nat) : Int)) (and_i64 h (by omega) bit (by omega))) (tQ rfl (qEq rfl rfl) (tEnd (xThen ?_))))))))))))))
  refine cIf rfl (fun c10 => ?_) (fun c10 => ?_)
  · refine cSeq (cReg (tQ rfl (qMove rfl) (tQ rfl (qEq rfl rfl) (tQ rfl (qAssign rfl) (tEnd (xThen (cRet (xRetThen ?_))))))))
    refine xRet1 _ Tryd.results146 rfl fun w' s' => ⟨congrArg Value.bool ?_, s'.toExt (Sub.refl _)⟩
    rw [Bool.eq_iff_iff]
    simp only [Go.V.dsl, reduceCtorEq] at *
    omega
  · refine cSkip (xThen (cSeq (cReg (tQ rfl (qMove rfl) (tQ rfl (qGe rfl rfl) (tQ rfl (qMove rfl) ?_))))))
    refine tCase 15 rfl (fun g15 => ?_) (fun g15 => ?_)
    · refine tGo rfl rfl (tQ rfl (qMove rfl) (tGo rfl rfl (tQ rfl (qLd1 Tryd.isAgg3 rfl h2) (tGo rfl rfl (tQ rfl (qLt rfl rfl) (tQ rfl (qPickT rfl rfl) (tQ rfl (qAssign rfl) (tEnd (xThen (cRet ?_))))))))))
      refine xRet1 _ Tryd.results146 rfl fun w' s' => ⟨congrArg Value.bool ?_, s'.toExt (Sub.refl _)⟩
      rw [Bool.eq_iff_iff]
      simp only [Go.V.dsl, reduceCtorEq] at *
      omega
    · refine tNo rfl rfl rfl rfl (tNo rfl rfl rfl rfl (tNo rfl rfl rfl rfl (tQ rfl (qPickF rfl rfl) (tQ rfl (qAssign rfl) (tEnd (xThen (cRet ?_)))))))
      refine xRet1 _ Tryd.results146 rfl fun w' s' => ⟨congrArg Value.bool ?_, s'.toExt (Sub.refl _)⟩
      rw [Bool.eq_iff_iff]
      simp only [Go.V.dsl, reduceCtorEq] at *
      omega

theorem numberPT {F : Hp} {w : World} {V : Value} {op xx xy xn g : Int} (hF : Sub F (hp w)) (hg : 0 ≤ g ∧ g ≤ 1000000000) :
    Calls Tryd.prog 147 [.agg #[.int .i64 op, V, .int .i64 xx, .int .i64 xy, .int .i64 xn], .int .i64 g, .bool true].toArray w (fun e w' => e = .returned (.bool (decide ((op = 3 ∧ 2 ≤ xn ∧ xn ≤ 2 * g + 1) ∨ (op = 4 ∧ 1 ≤ xn ∧ (xn ≤ 6 ∨ (true = true ∧ xn ≤ 8))) ∨ (op ≠ 3 ∧ op ≠ 4 ∧ 0 ≤ xn ∧ xn ≤ 63)))) ∧ Ext w w') := by
  refine enter' 48 Tryd.func147 Tryd.ntmps147 rfl rfl (cSeq (cReg (tBox rfl rfl rfl (cs := [_, _, _, _, _]) fun b3 => (tQ rfl (qAssign rfl) (tEnd (xThen (cSeq (cSeq (cReg (tQ rfl (qFieldAddr Tryd.runUnderlying44 rfl Tryd.sizeOf3 rfl rfl rfl) (tQ rfl (qLd1M 0 Tryd.isAgg3 rfl rfl rfl) (tEnd (xThen (cBlock (cSeq (cReg (tQ rfl (qEq rfl rfl) (tQ rfl (qAssign rfl) (tEnd (xThen ?_))))))))))))))))))))
  refine cIf rfl (fun c9 => ?_) (fun c9 => ?_)
  · refine cSeq (cReg (tQ rfl (qFieldAddr Tryd.runUnderlying44 rfl Tryd.sizeOf3 rfl rfl rfl) (tQ rfl (qLd1M 0 Tryd.isAgg3 rfl rfl rfl) (tQ rfl (qGe rfl rfl) (tQ rfl (qMove rfl) ?_)))))
    refine tCase 14 rfl (fun g14 => ?_) (fun g14 => ?_)
    · refine tGo rfl rfl (tQ rfl (qFieldAddr Tryd.runUnderlying44 rfl Tryd.sizeOf3 rfl rfl rfl) (tGo rfl rfl (tQ rfl (qLd1M 0 Tryd.isAgg3 rfl rfl rfl) (tGo rfl rfl (tQ rfl (qMove rfl) (tGo rfl rfl (tQ rfl (qMul rfl rfl (w64 (by omega) (by omega))) (tGo rfl rfl (tQ rfl (qAdd rfl rfl (w64 (by omega) (by omega))) (tGo rfl rfl (tQ rfl (qLe rfl rfl) ?_)))))))))))
      refine tQ rfl (qPickT rfl rfl) (tQ rfl (qAssign rfl) (tEnd (xThen (cRet (xRetBlock (xRetThen ?_))))))
      refine xRet1 _ Tryd.results147 rfl fun w' s' => ⟨congrArg Value.bool ?_, s'.toExt (Sub.refl _)⟩
      rw [Bool.eq_iff_iff]
      simp only [Go.V.dsl, reduceCtorEq] at *
      omega
    · refine tNo rfl rfl rfl rfl (tNo rfl rfl rfl rfl (tNo rfl rfl rfl rfl (tNo rfl rfl rfl rfl (tNo rfl rfl rfl rfl (tNo rfl rfl rfl rfl (tQ rfl (qPickF rfl rfl) (tQ rfl (qAssign rfl) (tEnd (xThen (cRet (xRetBlock (xRetThen ?_))))))))))))
      refine xRet1 _ Tryd.results147 rfl fun w' s' => ⟨congrArg Value.bool ?_, s'.toExt (Sub.refl _)⟩
      rw [Bool.eq_iff_iff]
      simp only [Go.V.dsl, reduceCtorEq] at *
      omega
  · refine cSeq (cReg (tQ rfl (qEq rfl rfl) (tQ rfl (qAssign rfl) (tEnd (xThen ?_)))))
    refine cIf rfl (fun c22 => ?_) (fun c22 => ?_)
    · refine cSeq (cReg (tQ rfl (qFieldAddr Tryd.runUnderlying44 rfl Tryd.sizeOf3 rfl rfl rfl) (tQ rfl (qLd1M 0 Tryd.isAgg3 rfl rfl rfl) (tQ rfl (qGe rfl rfl) (tQ rfl (qMove rfl) ?_)))))
      refine tCase 27 rfl (fun g27 => ?_) (fun g27 => ?_)
      · refine tGo rfl rfl (tQ rfl (qFieldAddr Tryd.runUnderlying44 rfl Tryd.sizeOf3 rfl rfl rfl) (tGo rfl rfl (tQ rfl (qLd1M 0 Tryd.isAgg3 rfl rfl rfl) (tGo rfl rfl (tQ rfl (qLe rfl rfl) (tGo rfl rfl (tQ rfl (qMove rfl) ?_)))))))
        refine tCase 31 rfl (fun g31 => ?_) (fun g31 => ?_)
        · refine tNo rfl rfl rfl rfl (tNo rfl rfl rfl rfl (tNoU rfl rfl rfl (tNoU rfl rfl rfl (tNoU rfl rfl rfl (tNo rfl rfl rfl rfl (tGo rfl rfl (tQ rfl (qPickT rfl rfl) (tQ rfl (qPickT rfl rfl) (tQ rfl (qAssign rfl) (tEnd (xThen (cRet (xRetBlock (xRetThen ?_))))))))))))))
          refine xRet1 _ Tryd.results147 rfl fun w' s' => ⟨congrArg Value.bool ?_, s'.toExt (Sub.refl _)⟩
          rw [Bool.eq_iff_iff]
          simp only [Go.V.dsl, reduceCtorEq] at *
          omega
        · refine tGo rfl rfl (tQ rfl (qMove rfl) (tGo rfl rfl (tQ rfl (qMove rfl) (tGo rfl rfl (tQ rfl (qFieldAddr Tryd.runUnderlying44 rfl Tryd.sizeOf3 rfl rfl rfl) (tGo rfl rfl (tQ rfl (qLd1M 0 Tryd.isAgg3 rfl rfl rfl) (tGo rfl rfl (tQ rfl (qLe rfl rfl) (tGo rfl rfl (tQ rfl (qPickT rfl rfl) ?_)))))))))))
          refine tGo rfl rfl (tQ rfl (qPickF rfl rfl) (tQ rfl (qPickT rfl rfl) (tQ rfl (qAssign rfl) (tEnd (xThen (cRet (xRetBlock (xRetThen ?_))))))))
          refine xRet1 _ Tryd.results147 rfl fun w' s' => ⟨congrArg Value.bool ?_, s'.toExt (Sub.refl _)⟩
          rw [Bool.eq_iff_iff]
          simp only [Go.V.dsl, reduceCtorEq] at *
          omega
      · refine tNo rfl rfl rfl rfl (tNo rfl rfl rfl rfl (tNo rfl rfl rfl rfl (tNo rfl rfl rfl rfl (tNoU rfl rfl rfl (tNoU rfl rfl rfl (tNoU rfl rfl rfl (tNoU rfl rfl rfl (tNoU rfl rfl rfl (tNoU rfl rfl rfl (tNo rfl rfl rfl rfl (tQ rfl (qPickF rfl rfl) ?_)))))))))))
        refine tQ rfl (qAssign rfl) (tEnd (xThen (cRet (xRetBlock (xRetThen ?_)))))
        refine xRet1 _ Tryd.results147 rfl fun w' s' => ⟨congrArg Value.bool ?_, s'.toExt (Sub.refl _)⟩
        rw [Bool.eq_iff_iff]
        simp only [Go.V.dsl, reduceCtorEq] at *
        omega
    · refine cSkip (xBlock (xThen (cSeq (cReg (tQ rfl (qFieldAddr Tryd.runUnderlying44 rfl Tryd.sizeOf3 rfl rfl rfl) (tQ rfl (qLd1M 0 Tryd.isAgg3 rfl rfl rfl) (tQ rfl (qGe rfl rfl) (tQ rfl (qMove rfl) ?_))))))))
      refine tCase 43 rfl (fun g43 => ?_) (fun g43 => ?_)
      · refine tGo rfl rfl (tQ rfl (qFieldAddr Tryd.runUnderlying44 rfl Tryd.sizeOf3 rfl rfl rfl) (tGo rfl rfl (tQ rfl (qLd1M 0 Tryd.isAgg3 rfl rfl rfl) (tGo rfl rfl (tQ rfl (qLe rfl rfl) (tQ rfl (qPickT rfl rfl) (tQ rfl (qAssign rfl) (tEnd (xThen (cRet ?_))))))))))
        refine xRet1 _ Tryd.results147 rfl fun w' s' => ⟨congrArg Value.bool ?_, s'.toExt (Sub.refl _)⟩
        rw [Bool.eq_iff_iff]
        simp only [Go.V.dsl, reduceCtorEq] at *
        omega
      · refine tNo rfl rfl rfl rfl (tNo rfl rfl rfl rfl (tNo rfl rfl rfl rfl (tQ rfl (qPickF rfl rfl) (tQ rfl (qAssign rfl) (tEnd (xThen (cRet ?_)))))))
        refine xRet1 _ Tryd.results147 rfl fun w' s' => ⟨congrArg Value.bool ?_, s'.toExt (Sub.refl _)⟩
        rw [Bool.eq_iff_iff]
        simp only [Go.V.dsl, reduceCtorEq] at *
        omega

theorem numberPF {F : Hp} {w : World} {V : Value} {op xx xy xn g : Int} (hF : Sub F (hp w)) (hg : 0 ≤ g ∧ g ≤ 1000000000) :
    Calls Tryd.prog 147 [.agg #[.int .i64 op, V, .int .i64 xx, .int .i64 xy, .int .i64 xn], .int .i64 g, .bool false].toArray w (fun e w' => e = .returned (.bool (decide ((op = 3 ∧ 2 ≤ xn ∧ xn ≤ 2 * g + 1) ∨ (op = 4 ∧ 1 ≤ xn ∧ (xn ≤ 6 ∨ (false = true ∧ xn ≤ 8))) ∨ (op ≠ 3 ∧ op ≠ 4 ∧ 0 ≤ xn ∧ xn ≤ 63)))) ∧ Ext w w') := by
  refine enter' 48 Tryd.func147 Tryd.ntmps147 rfl rfl (cSeq (cReg (tBox rfl rfl rfl (cs := [_, _, _, _, _]) fun b3 => (tQ rfl (qAssign rfl) (tEnd (xThen (cSeq (cSeq (cReg (tQ rfl (qFieldAddr Tryd.runUnderlying44 rfl Tryd.sizeOf3 rfl rfl rfl) (tQ rfl (qLd1M 0 Tryd.isAgg3 rfl rfl rfl) (tEnd (xThen (cBlock (cSeq (cReg (tQ rfl (qEq rfl rfl) (tQ rfl (qAssign rfl) (tEnd (xThen ?_))))))))))))))))))))
  refine cIf rfl (fun c9 => ?_) (fun c9 => ?_)
  · refine cSeq (cReg (tQ rfl (qFieldAddr Tryd.runUnderlying44 rfl Tryd.sizeOf3 rfl rfl rfl) (tQ rfl (qLd1M 0 Tryd.isAgg3 rfl rfl rfl) (tQ rfl (qGe rfl rfl) (tQ rfl (qMove rfl) ?_)))))
    refine tCase 14 rfl (fun g14 => ?_) (fun g14 => ?_)
    · refine tGo rfl rfl (tQ rfl (qFieldAddr Tryd.runUnderlying44 rfl Tryd.sizeOf3 rfl rfl rfl) (tGo rfl rfl (tQ rfl (qLd1M 0 Tryd.isAgg3 rfl rfl rfl) (tGo rfl rfl (tQ rfl (qMove rfl) (tGo rfl rfl (tQ rfl (qMul rfl rfl (w64 (by omega) (by omega))) (tGo rfl rfl (tQ rfl (qAdd rfl rfl (w64 (by omega) (by omega))) (tGo rfl rfl (tQ rfl (qLe rfl rfl) ?_)))))))))))
      refine tQ rfl (qPickT rfl rfl) (tQ rfl (qAssign rfl) (tEnd (xThen (cRet (xRetBlock (xRetThen ?_))))))
      refine xRet1 _ Tryd.results147 rfl fun w' s' => ⟨congrArg Value.bool ?_, s'.toExt (Sub.refl _)⟩
      rw [Bool.eq_iff_iff]
      simp only [Go.V.dsl, reduceCtorEq] at *
      omega
    · refine tNo rfl rfl rfl rfl (tNo rfl rfl rfl rfl (tNo rfl rfl rfl rfl (tNo rfl rfl rfl rfl (tNo rfl rfl rfl rfl (tNo rfl rfl rfl rfl (tQ rfl (qPickF rfl rfl) (tQ rfl (qAssign rfl) (tEnd (xThen (cRet (xRetBlock (xRetThen ?_))))))))))))
      refine xRet1 _ Tryd.results147 rfl fun w' s' => ⟨congrArg Value.bool ?_, s'.toExt (Sub.refl _)⟩
      rw [Bool.eq_iff_iff]
      simp only [Go.V.dsl, reduceCtorEq] at *
      omega
  · refine cSeq (cReg (tQ rfl (qEq rfl rfl) (tQ rfl (qAssign rfl) (tEnd (xThen ?_)))))
    refine cIf rfl (fun c22 => ?_) (fun c22 => ?_)
    · refine cSeq (cReg (tQ rfl (qFieldAddr Tryd.runUnderlying44 rfl Tryd.sizeOf3 rfl rfl rfl) (tQ rfl (qLd1M 0 Tryd.isAgg3 rfl rfl rfl) (tQ rfl (qGe rfl rfl) (tQ rfl (qMove rfl) ?_)))))
      refine tCase 27 rfl (fun g27 => ?_) (fun g27 => ?_)
      · refine tGo rfl rfl (tQ rfl (qFieldAddr Tryd.runUnderlying44 rfl Tryd.sizeOf3 rfl rfl rfl) (tGo rfl rfl (tQ rfl (qLd1M 0 Tryd.isAgg3 rfl rfl rfl) (tGo rfl rfl (tQ rfl (qLe rfl rfl) (tGo rfl rfl (tQ rfl (qMove rfl) ?_)))))))
        refine tCase 31 rfl (fun g31 => ?_) (fun g31 => ?_)
        · refine tNo rfl rfl rfl rfl (tNo rfl rfl rfl rfl (tNoU rfl rfl rfl (tNoU rfl rfl rfl (tNoU rfl rfl rfl (tNo rfl rfl rfl rfl (tGo rfl rfl (tQ rfl (qPickT rfl rfl) (tQ rfl (qPickT rfl rfl) (tQ rfl (qAssign rfl) (tEnd (xThen (cRet (xRetBlock (xRetThen ?_))))))))))))))
          refine xRet1 _ Tryd.results147 rfl fun w' s' => ⟨congrArg Value.bool ?_, s'.toExt (Sub.refl _)⟩
          rw [Bool.eq_iff_iff]
          simp only [Go.V.dsl, reduceCtorEq] at *
          omega
        · refine tGo rfl rfl (tQ rfl (qMove rfl) (tGo rfl rfl (tQ rfl (qMove rfl) (tNo rfl rfl rfl rfl (tNo rfl rfl rfl rfl (tNo rfl rfl rfl rfl (tGo rfl rfl (tQ rfl (qPickF rfl rfl) (tGo rfl rfl (tQ rfl (qPickF rfl rfl) (tQ rfl (qPickT rfl rfl) ?_)))))))))))
          refine tQ rfl (qAssign rfl) (tEnd (xThen (cRet (xRetBlock (xRetThen ?_)))))
          refine xRet1 _ Tryd.results147 rfl fun w' s' => ⟨congrArg Value.bool ?_, s'.toExt (Sub.refl _)⟩
          rw [Bool.eq_iff_iff]
          simp only [Go.V.dsl, reduceCtorEq] at *
          omega
      · refine tNo rfl rfl rfl rfl (tNo rfl rfl rfl rfl (tNo rfl rfl rfl rfl (tNo rfl rfl rfl rfl (tNoU rfl rfl rfl (tNoU rfl rfl rfl (tNoU rfl rfl rfl (tNoU rfl rfl rfl (tNoU rfl rfl rfl (tNoU rfl rfl rfl (tNo rfl rfl rfl rfl (tQ rfl (qPickF rfl rfl) ?_)))))))))))
        refine tQ rfl (qAssign rfl) (tEnd (xThen (cRet (xRetBlock (xRetThen ?_)))))
        refine xRet1 _ Tryd.results147 rfl fun w' s' => ⟨congrArg Value.bool ?_, s'.toExt (Sub.refl _)⟩
        rw [Bool.eq_iff_iff]
        simp only [Go.V.dsl, reduceCtorEq] at *
        omega
    · refine cSkip (xBlock (xThen (cSeq (cReg (tQ rfl (qFieldAddr Tryd.runUnderlying44 rfl Tryd.sizeOf3 rfl rfl rfl) (tQ rfl (qLd1M 0 Tryd.isAgg3 rfl rfl rfl) (tQ rfl (qGe rfl rfl) (tQ rfl (qMove rfl) ?_))))))))
      refine tCase 43 rfl (fun g43 => ?_) (fun g43 => ?_)
      · refine tGo rfl rfl (tQ rfl (qFieldAddr Tryd.runUnderlying44 rfl Tryd.sizeOf3 rfl rfl rfl) (tGo rfl rfl (tQ rfl (qLd1M 0 Tryd.isAgg3 rfl rfl rfl) (tGo rfl rfl (tQ rfl (qLe rfl rfl) (tQ rfl (qPickT rfl rfl) (tQ rfl (qAssign rfl) (tEnd (xThen (cRet ?_))))))))))
        refine xRet1 _ Tryd.results147 rfl fun w' s' => ⟨congrArg Value.bool ?_, s'.toExt (Sub.refl _)⟩
        rw [Bool.eq_iff_iff]
        simp only [Go.V.dsl, reduceCtorEq] at *
        omega
      · refine tNo rfl rfl rfl rfl (tNo rfl rfl rfl rfl (tNo rfl rfl rfl rfl (tQ rfl (qPickF rfl rfl) (tQ rfl (qAssign rfl) (tEnd (xThen (cRet ?_)))))))
        refine xRet1 _ Tryd.results147 rfl fun w' s' => ⟨congrArg Value.bool ?_, s'.toExt (Sub.refl _)⟩
        rw [Bool.eq_iff_iff]
        simp only [Go.V.dsl, reduceCtorEq] at *
        omega

set_option maxHeartbeats 4000000 in
theorem fitsPT {F : Hp} {w : World} {A : Option Addr} {m c : Nat} {x : Ins} {n g : Int} (hF : Sub F (hp w)) (hT : T F) (hx : RdR F A m x.set) (hm : m ≤ 1000000000) (hn : 0 ≤ n ∧ n ≤ 1000000000) (hg : 0 ≤ g ∧ g ≤ 1000000000) :
    Calls Tryd.prog 115 [.agg #[.int .i64 x.op, .slice A m c, .int .i64 x.x, .int .i64 x.y, .int .i64 x.n], .int .i64 n, .int .i64 g, .bool true].toArray w (fun e w' => e = .returned (.bool (decide (instOk x n g true))) ∧ Ext w w') := by
  replace hx := hx.mono hF
  replace hT := hT.mono hF
  have hxl := hx.len
  have hsc := setE_cases x.set
  have hcs := hasV_cases x.op
  refine enter' 82 Tryd.func115 Tryd.ntmps115 rfl rfl (cSeq (cReg (tBox rfl rfl rfl (cs := [_, _, _, _, _]) fun b4 => (tBox rfl rfl rfl (cs := [_]) fun b5 => (tQ rfl (qAssign rfl) (tEnd (xThen (cSeq (cReg (tQ rfl (qFieldAddr Tryd.runUnderlying44 rfl Tryd.sizeOf3 rfl rfl rfl) (tQ rfl (qLd1M 1 Tryd.isAgg3 rfl rfl rfl) (tCallQ rfl Tryd.call145 (first := []) (captured := []) rfl rfl (fun w' s' => has_) (tAlloc rfl Tryd.zeroValue3 rfl (cs := [_]) fun b9 => (tStore1 0 Tryd.sizeOf3 rfl rfl rfl rfl (by simp) (tEnd (xThen (cSeq (cSeq (cReg ?_)))))))))))))))))))
  refine tQ rfl (qLd1M 0 Tryd.isAgg3 rfl rfl rfl) (tQ rfl (qLt rfl rfl) (tEnd (xThen ?_)))
  refine cIf rfl (fun c16 => ?_) (fun c16 => ?_)
  · refine cSeq (cReg (tQ rfl (qAssign rfl) (tEnd (xThen (cRet (xRetThen ?_))))))
    refine xRet1 _ Tryd.results115 rfl fun w' s' => ⟨congrArg Value.bool ?_, s'.toExt (Sub.refl _)⟩
    rw [Bool.eq_iff_iff]
    simp only [instOk, hxl] at *
    simp only [Go.V.dsl, reduceCtorEq] at *
    omega
  · refine cSkip (xThen (cSeq ?_))
    obtain ⟨h, hh, hh16⟩ : ∃ k : Nat, hasV x.op = (k : Int) ∧ k < 16 := ⟨(hasV x.op).toNat, by simp at c16; omega, by omega⟩
    rw [hh] at hcs
    rw [hh]
    refine cReg (tQ rfl (qFunc rfl rfl) (tQ rfl (qAssign rfl) (tEnd (xThen ?_))))
    refine cCut (⟨fun (u : Unit) => [(2, .int .i64 g), (3, .bool true), (4, .pointer (some ⟨b4, 0, none⟩)), (5, .pointer (some ⟨b5, 0, none⟩)), (9, .pointer (some ⟨b9, 0, none⟩))], fun (u : Unit) => hp w, fun (u : Unit) => [blk b9 [.int .i64 (h : Nat)] 3, blk b5 [.int .i64 n] 3, blk b4 [.int .i64 x.op, .slice A m c, .int .i64 x.x, .int .i64 x.y, .int .i64 x.n] 44], fun (u : Unit) => ((h &&& 1 = 0 ∧ x.x = 0) ∨ (h &&& 1 ≠ 0 ∧ 0 ≤ x.x ∧ x.x < n)) ∧ ((h &&& 2 = 0 ∧ x.y = 0) ∨ (h &&& 2 ≠ 0 ∧ 0 ≤ x.y ∧ x.y < n)), fun (u : Unit) => 0⟩ : LI (Unit)) ?_ ?_
    · refine cSeq (cReg (tQ rfl (qMove rfl) (tQ rfl (qFieldAddr Tryd.runUnderlying44 rfl Tryd.sizeOf3 rfl rfl rfl) (tQ rfl (qLd1M 2 Tryd.isAgg3 rfl rfl rfl) (tCallQ rfl Tryd.call146 rfl rfl (fun w' s' => place_ (F := hp w') (bit := 1) (Sub.refl _) hh16 (by decide) (blk_at1 (s'.get 0 rfl) rfl) (blk_at1 (s'.get 1 rfl) rfl)) (tQ rfl (qNot rfl) (tQ rfl (qMove rfl) ?_)))))))
      refine tCase 23 rfl (fun g23 => ?_) (fun g23 => ?_)
      · refine tNo rfl rfl rfl rfl (tNo rfl rfl rfl rfl (tNo rfl rfl rfl rfl (tNo rfl rfl rfl rfl (tNo rfl rfl rfl rfl (tQ rfl (qPickT rfl rfl) (tEnd (xThen (cIfT rfl (cSeq (cReg (tQ rfl (qAssign rfl) (tEnd (xThen (cRet (xRetThen ?_)))))))))))))))
        refine xRet1 _ Tryd.results115 rfl fun w' s' => ⟨congrArg Value.bool ?_, s'.toExt (Sub.refl _)⟩
        rw [Bool.eq_iff_iff]
        rw [show (decide (instOk x n g true) = true) = instOk x n g true from decide_eq_true_eq, instOk_has hh]
        unfold plc
        clear hcs hh
        simp only [hxl] at *
        simp only [Go.V.dsl, reduceCtorEq] at *
        omega
      · refine tGo rfl rfl (tQ rfl (qMove rfl) (tGo rfl rfl (tQ rfl (qFieldAddr Tryd.runUnderlying44 rfl Tryd.sizeOf3 rfl rfl rfl) (tGo rfl rfl (tQ rfl (qLd1M 2 Tryd.isAgg3 rfl rfl rfl) (tGo rfl rfl (tCallQ rfl Tryd.call146 rfl rfl (fun w' s' => place_ (F := hp w') (bit := 2) (Sub.refl _) hh16 (by decide) (blk_at1 (s'.get 0 rfl) rfl) (blk_at1 (s'.get 1 rfl) rfl)) (tGo rfl rfl (tQ rfl (qNot rfl) (tQ rfl (qPickF rfl rfl) (tEnd (xThen ?_))))))))))))
        refine cIf rfl (fun c29 => ?_) (fun c29 => ?_)
        · refine cSeq (cReg (tQ rfl (qAssign rfl) (tEnd (xThen (cRet (xRetThen ?_))))))
          refine xRet1 _ Tryd.results115 rfl fun w' s' => ⟨congrArg Value.bool ?_, s'.toExt (Sub.refl _)⟩
          rw [Bool.eq_iff_iff]
          rw [show (decide (instOk x n g true) = true) = instOk x n g true from decide_eq_true_eq, instOk_has hh]
          unfold plc
          clear hcs hh
          simp only [hxl] at *
          simp only [Go.V.dsl, reduceCtorEq] at *
          omega
        · refine cSkip ?_
          refine xMeet _ () ?_ (le_of ⟨rfl, rfl, rfl, rfl, rfl, trivial⟩) (fun _ s => s)
          simp only [Go.V.dsl, reduceCtorEq] at *
          exact ⟨by omega, by omega⟩
    · rintro u ⟨hq1, hq2⟩
      refine cCut (⟨fun (u : Unit) => [(3, .bool true), (4, .pointer (some ⟨b4, 0, none⟩)), (9, .pointer (some ⟨b9, 0, none⟩))], fun (u : Unit) => hp w, fun (u : Unit) => [blk b9 [.int .i64 (h : Nat)] 3, blk b4 [.int .i64 x.op, .slice A m c, .int .i64 x.x, .int .i64 x.y, .int .i64 x.n] 44], fun (u : Unit) => (h &&& 4 = 0 ∧ x.n = 0) ∨ (h &&& 4 ≠ 0 ∧ ((x.op = 3 ∧ 2 ≤ x.n ∧ x.n ≤ 2 * g + 1) ∨ (x.op = 4 ∧ 1 ≤ x.n ∧ (x.n ≤ 6 ∨ (true = true ∧ x.n ≤ 8))) ∨ (x.op ≠ 3 ∧ x.op ≠ 4 ∧ 0 ≤ x.n ∧ x.n ≤ 63))), fun (u : Unit) => 0⟩ : LI (Unit)) ?_ ?_
      · refine cSeq (cReg (tQ rfl (qLd1M 0 Tryd.isAgg3 rfl rfl rfl) (tQ rfl (qAnd rfl rfl (c := ((h &&& 4 : Nat) : Int)) (and_i64 h (by omega) 4 (by omega))) (tQ rfl (qEq rfl rfl) (tQ rfl (qMove rfl) ?_)))))
        refine tCase 33 rfl (fun g33 => ?_) (fun g33 => ?_)
        · refine tGo rfl rfl (tQ rfl (qFieldAddr Tryd.runUnderlying44 rfl Tryd.sizeOf3 rfl rfl rfl) (tGo rfl rfl (tQ rfl (qLd1M 2 Tryd.isAgg3 rfl rfl rfl) (tGo rfl rfl (tQ rfl (qNe rfl rfl) (tQ rfl (qPickT rfl rfl) (tQ rfl (qMove rfl) ?_)))))))
          refine tCase 38 rfl (fun g38 => ?_) (fun g38 => ?_)
          · refine tNo rfl rfl rfl rfl (tNo rfl rfl rfl rfl (tNo rfl rfl rfl rfl (tNo rfl rfl rfl rfl (tNoU rfl rfl rfl (tNoU rfl rfl rfl (tNoU rfl rfl rfl (tNoU rfl rfl rfl (tNoU rfl rfl rfl (tNo rfl rfl rfl rfl (tQ rfl (qPickT rfl rfl) (tEnd (xThen ?_))))))))))))
            refine cIfT rfl (cSeq (cReg (tQ rfl (qAssign rfl) (tEnd (xThen (cRet (xRetThen ?_)))))))
            refine xRet1 _ Tryd.results115 rfl fun w' s' => ⟨congrArg Value.bool ?_, s'.toExt (Sub.refl _)⟩
            rw [Bool.eq_iff_iff]
            rw [show (decide (instOk x n g true) = true) = instOk x n g true from decide_eq_true_eq, instOk_has hh]
            unfold plc
            clear hcs hh
            simp only [hxl] at *
            simp only [Go.V.dsl, reduceCtorEq] at *
            omega
          · refine tGo rfl rfl (tQ rfl (qLd1M 0 Tryd.isAgg3 rfl rfl rfl) (tGo rfl rfl (tQ rfl (qAnd rfl rfl (c := ((h &&& 4 : Nat) : Int)) (and_i64 h (by omega) 4 (by omega))) (tGo rfl rfl (tQ rfl (qNe rfl rfl) (tGo rfl rfl (tQ rfl (qMove rfl) ?_)))))))
            refine tCase 42 rfl (fun g42 => ?_) (fun g42 => ?_)
            · refine tGo rfl rfl (tQ rfl (qLdNM 2 Tryd.isAgg44 Tryd.sizeOf44 rfl rfl rfl rfl) (tGo rfl rfl (tQ rfl (qMove rfl) (tGo rfl rfl (tQ rfl (qMove rfl) (tGo rfl rfl (tCallQ rfl Tryd.call147 (first := []) (captured := []) rfl rfl (fun w' s' => numberPT s'.sub hg) (tGo rfl rfl (tQ rfl (qNot rfl) (tGo rfl rfl (tQ rfl (qPickT rfl rfl) ?_)))))))))))
              refine tQ rfl (qPickF rfl rfl) (tEnd (xThen ?_))
              refine cIf rfl (fun c49 => ?_) (fun c49 => ?_)
              · refine cSeq (cReg (tQ rfl (qAssign rfl) (tEnd (xThen (cRet (xRetThen ?_))))))
                refine xRet1 _ Tryd.results115 rfl fun w' s' => ⟨congrArg Value.bool ?_, s'.toExt (Sub.refl _)⟩
                rw [Bool.eq_iff_iff]
                rw [show (decide (instOk x n g true) = true) = instOk x n g true from decide_eq_true_eq, instOk_has hh]
                unfold plc
                clear hcs hh
                simp only [hxl] at *
                simp only [Go.V.dsl, reduceCtorEq] at *
                omega
              · refine cSkip ?_
                refine xMeet _ () ?_ (le_of ⟨rfl, rfl, rfl, trivial⟩) (fun _ s => s.less (.cons_cons _ (.cons _ (.cons_cons _ (.slnil)))))
                simp only [Go.V.dsl, reduceCtorEq] at *
                omega
            · refine tNo rfl rfl rfl rfl (tNo rfl rfl rfl rfl (tNo rfl rfl rfl rfl (tNo rfl rfl rfl rfl (tNo rfl rfl rfl rfl (tGo rfl rfl (tQ rfl (qPickF rfl rfl) (tQ rfl (qPickF rfl rfl) (tEnd (xThen (cIfF rfl (cSkip ?_)))))))))))
              refine xMeet _ () ?_ (le_of ⟨rfl, rfl, rfl, trivial⟩) (fun _ s => s.less (.cons_cons _ (.cons _ (.cons_cons _ (.slnil)))))
              simp only [Go.V.dsl, reduceCtorEq] at *
              omega
        · refine tNo rfl rfl rfl rfl (tNo rfl rfl rfl rfl (tNo rfl rfl rfl rfl (tQ rfl (qPickF rfl rfl) (tQ rfl (qMove rfl) (tGo rfl rfl (tQ rfl (qLd1M 0 Tryd.isAgg3 rfl rfl rfl) (tGo rfl rfl (tQ rfl (qAnd rfl rfl (c := ((h &&& 4 : Nat) : Int)) (and_i64 h (by omega) 4 (by omega))) (tGo rfl rfl (tQ rfl (qNe rfl rfl) (tGo rfl rfl ?_)))))))))))
          refine tQ rfl (qMove rfl) ?_
          refine tCase 42 rfl (fun g42 => ?_) (fun g42 => ?_)
          · refine tGo rfl rfl (tQ rfl (qLdNM 2 Tryd.isAgg44 Tryd.sizeOf44 rfl rfl rfl rfl) (tGo rfl rfl (tQ rfl (qMove rfl) (tGo rfl rfl (tQ rfl (qMove rfl) (tGo rfl rfl (tCallQ rfl Tryd.call147 (first := []) (captured := []) rfl rfl (fun w' s' => numberPT s'.sub hg) (tGo rfl rfl (tQ rfl (qNot rfl) (tGo rfl rfl (tQ rfl (qPickT rfl rfl) ?_)))))))))))
            refine tQ rfl (qPickF rfl rfl) (tEnd (xThen ?_))
            refine cIf rfl (fun c49 => ?_) (fun c49 => ?_)
            · refine cSeq (cReg (tQ rfl (qAssign rfl) (tEnd (xThen (cRet (xRetThen ?_))))))
              refine xRet1 _ Tryd.results115 rfl fun w' s' => ⟨congrArg Value.bool ?_, s'.toExt (Sub.refl _)⟩
              rw [Bool.eq_iff_iff]
              rw [show (decide (instOk x n g true) = true) = instOk x n g true from decide_eq_true_eq, instOk_has hh]
              unfold plc
              clear hcs hh
              simp only [hxl] at *
              simp only [Go.V.dsl, reduceCtorEq] at *
              omega
            · refine cSkip ?_
              refine xMeet _ () ?_ (le_of ⟨rfl, rfl, rfl, trivial⟩) (fun _ s => s.less (.cons_cons _ (.cons _ (.cons_cons _ (.slnil)))))
              simp only [Go.V.dsl, reduceCtorEq] at *
              omega
          · refine tNo rfl rfl rfl rfl (tNo rfl rfl rfl rfl (tNo rfl rfl rfl rfl (tNo rfl rfl rfl rfl (tNo rfl rfl rfl rfl (tGo rfl rfl (tQ rfl (qPickF rfl rfl) (tQ rfl (qPickF rfl rfl) (tEnd (xThen (cIfF rfl (cSkip ?_)))))))))))
            refine xMeet _ () ?_ (le_of ⟨rfl, rfl, rfl, trivial⟩) (fun _ s => s.less (.cons_cons _ (.cons _ (.cons_cons _ (.slnil)))))
            simp only [Go.V.dsl, reduceCtorEq] at *
            omega
      · rintro u hq3
        refine cSeq (cSeq (cReg (tQ rfl (qLd1M 0 Tryd.isAgg3 rfl rfl rfl) (tQ rfl (qAnd rfl rfl (c := ((h &&& 8 : Nat) : Int)) (and_i64 h (by omega) 8 (by omega))) (tQ rfl (qEq rfl rfl) (tEnd (xThen ?_)))))))
        refine cIf rfl (fun c52 => ?_) (fun c52 => ?_)
        · refine cSeq (cReg (tQ rfl (qFieldAddr Tryd.runUnderlying44 rfl Tryd.sizeOf42 rfl rfl rfl) (tQ rfl (qLd1M 1 Tryd.isAgg42 rfl rfl rfl) (tQ rfl (qLen Tryd.runUnderlying42 rfl rfl) (tQ rfl (qEq rfl rfl) (tQ rfl (qAssign rfl) (tEnd (xThen (cRet (xRetThen ?_))))))))))
          refine xRet1 _ Tryd.results115 rfl fun w' s' => ⟨congrArg Value.bool ?_, s'.toExt (Sub.refl _)⟩
          rw [Bool.eq_iff_iff]
          rw [show (decide (instOk x n g true) = true) = instOk x n g true from decide_eq_true_eq, instOk_has hh]
          unfold plc
          clear hcs hh
          simp only [hxl] at *
          simp only [Go.V.dsl, reduceCtorEq] at *
          omega
        · refine cSkip (xThen (cSeq (cReg (tQ rfl (qFieldAddr Tryd.runUnderlying44 rfl Tryd.sizeOf42 rfl rfl rfl) (tQ rfl (qLd1M 1 Tryd.isAgg42 rfl rfl rfl) (tQ rfl (qLen Tryd.runUnderlying42 rfl rfl) (tQ rfl (qSub rfl rfl (w64 (by omega) (by omega))) (tQ rfl (qAssign rfl) (tEnd (xThen (cSeq (cReg (tQ rfl (qFieldAddr Tryd.runUnderlying44 rfl Tryd.sizeOf42 rfl rfl rfl) (tQ rfl (qLd1M 1 Tryd.isAgg42 rfl rfl rfl) (tCallQ rfl Tryd.call137 (first := []) (captured := []) rfl rfl (fun w' s' => checkS s'.sub hT hx hm) (tQ rfl (qEq rfl rfl) (tQ rfl (qMove rfl) ?_)))))))))))))))))
          refine tCase 65 rfl (fun g65 => ?_) (fun g65 => ?_)
          · refine tGo rfl rfl (tQ rfl (qMove rfl) (tGo rfl rfl (tQ rfl (qNot rfl) (tGo rfl rfl (tQ rfl (qMove rfl) (tGo rfl rfl (tQ rfl (qMove rfl) (tGo rfl rfl (tQ rfl (qLt rfl rfl) (tGo rfl rfl (tQ rfl (qPickF rfl rfl) ?_)))))))))))
            refine tGo rfl rfl (tQ rfl (qMove rfl) ?_)
            refine tCase 72 rfl (fun g72 => ?_) (fun g72 => ?_)
            · refine tNo rfl rfl rfl rfl (tNo rfl rfl rfl rfl (tNo rfl rfl rfl rfl (tNo rfl rfl rfl rfl (tNo rfl rfl rfl rfl (tNo rfl rfl rfl rfl (tNo rfl rfl rfl rfl (tGo rfl rfl (tQ rfl (qPickT rfl rfl) (tQ rfl (qPickT rfl rfl) (tQ rfl (qAssign rfl) (tEnd (xThen (cRet ?_)))))))))))))
              refine xRet1 _ Tryd.results115 rfl fun w' s' => ⟨congrArg Value.bool ?_, s'.toExt (Sub.refl _)⟩
              rw [Bool.eq_iff_iff]
              rw [show (decide (instOk x n g true) = true) = instOk x n g true from decide_eq_true_eq, instOk_has hh]
              unfold plc
              clear hcs hh
              simp only [hxl] at *
              simp only [Go.V.dsl, reduceCtorEq] at *
              omega
            · have hn0 : 0 < m := by simp at g72; omega
              obtain ⟨b, o, rfl, hN, hlo, hhi, hwf⟩ := hx.open_ (i := m - 1) (by omega)
              refine tGo rfl rfl (tQ rfl (qFieldAddr Tryd.runUnderlying44 rfl Tryd.sizeOf42 rfl rfl rfl) (tGo rfl rfl (tQ rfl (qLd1M 1 Tryd.isAgg42 rfl rfl rfl) (tGo rfl rfl (tQ rfl (qMove rfl) (tGo rfl rfl (tQ rfl (qIdxAddr Tryd.runUnderlying42 Tryd.sizeOf54 rfl rfl (j := m - 1) (by omega) (by omega)) (tGo rfl rfl (tQ rfl (qFieldAddr Tryd.runUnderlying54 rfl Tryd.sizeOf21 rfl rfl rfl) (tGo rfl rfl (tQ rfl (qLd1 Tryd.isAgg21 rfl (hhi (m - 1) (by omega))) ?_)))))))))))
              refine tGo rfl rfl (tQ rfl (qLe rfl rfl) (tGo rfl rfl (tQ rfl (qPickF rfl rfl) (tQ rfl (qPickT rfl rfl) (tQ rfl (qAssign rfl) (tEnd (xThen (cRet ?_))))))))
              refine xRet1 _ Tryd.results115 rfl fun w' s' => ⟨congrArg Value.bool ?_, s'.toExt (Sub.refl _)⟩
              rw [Bool.eq_iff_iff]
              rw [show (decide (instOk x n g true) = true) = instOk x n g true from decide_eq_true_eq, instOk_has hh]
              unfold plc
              clear hcs hh
              simp only [hxl] at *
              simp only [Go.V.dsl, reduceCtorEq] at *
              omega
          · refine tNo rfl rfl rfl rfl (tNo rfl rfl rfl rfl (tNo rfl rfl rfl rfl (tNoU rfl rfl rfl (tNoU rfl rfl rfl (tNo rfl rfl rfl rfl (tNo rfl rfl rfl rfl (tNoU rfl rfl rfl (tNoU rfl rfl rfl (tNoU rfl rfl rfl (tNoU rfl rfl rfl (tNoU rfl rfl rfl ?_)))))))))))
            refine tNoU rfl rfl rfl (tNoU rfl rfl rfl (tNo rfl rfl rfl rfl (tQ rfl (qPickF rfl rfl) (tQ rfl (qAssign rfl) (tEnd (xThen (cRet ?_)))))))
            refine xRet1 _ Tryd.results115 rfl fun w' s' => ⟨congrArg Value.bool ?_, s'.toExt (Sub.refl _)⟩
            rw [Bool.eq_iff_iff]
            rw [show (decide (instOk x n g true) = true) = instOk x n g true from decide_eq_true_eq, instOk_has hh]
            unfold plc
            clear hcs hh
            simp only [hxl] at *
            simp only [Go.V.dsl, reduceCtorEq] at *
            omega

set_option maxHeartbeats 4000000 in
theorem fitsPF {F : Hp} {w : World} {A : Option Addr} {m c : Nat} {x : Ins} {n g : Int} (hF : Sub F (hp w)) (hT : T F) (hx : RdR F A m x.set) (hm : m ≤ 1000000000) (hn : 0 ≤ n ∧ n ≤ 1000000000) (hg : 0 ≤ g ∧ g ≤ 1000000000) :
    Calls Tryd.prog 115 [.agg #[.int .i64 x.op, .slice A m c, .int .i64 x.x, .int .i64 x.y, .int .i64 x.n], .int .i64 n, .int .i64 g, .bool false].toArray w (fun e w' => e = .returned (.bool (decide (instOk x n g false))) ∧ Ext w w') := by
  replace hx := hx.mono hF
  replace hT := hT.mono hF
  have hxl := hx.len
  have hsc := setE_cases x.set
  have hcs := hasV_cases x.op
  refine enter' 82 Tryd.func115 Tryd.ntmps115 rfl rfl (cSeq (cReg (tBox rfl rfl rfl (cs := [_, _, _, _, _]) fun b4 => (tBox rfl rfl rfl (cs := [_]) fun b5 => (tQ rfl (qAssign rfl) (tEnd (xThen (cSeq (cReg (tQ rfl (qFieldAddr Tryd.runUnderlying44 rfl Tryd.sizeOf3 rfl rfl rfl) (tQ rfl (qLd1M 1 Tryd.isAgg3 rfl rfl rfl) (tCallQ rfl Tryd.call145 (first := []) (captured := []) rfl rfl (fun w' s' => has_) (tAlloc rfl Tryd.zeroValue3 rfl (cs := [_]) fun b9 => (tStore1 0 Tryd.sizeOf3 rfl rfl rfl rfl (by simp) (tEnd (xThen (cSeq (cSeq (cReg ?_)))))))))))))))))))
  refine tQ rfl (qLd1M 0 Tryd.isAgg3 rfl rfl rfl) (tQ rfl (qLt rfl rfl) (tEnd (xThen ?_)))
  refine cIf rfl (fun c16 => ?_) (fun c16 => ?_)
  · refine cSeq (cReg (tQ rfl (qAssign rfl) (tEnd (xThen (cRet (xRetThen ?_))))))
    refine xRet1 _ Tryd.results115 rfl fun w' s' => ⟨congrArg Value.bool ?_, s'.toExt (Sub.refl _)⟩
    rw [Bool.eq_iff_iff]
    simp only [instOk, hxl] at *
    simp only [Go.V.dsl, reduceCtorEq] at *
    omega
  · refine cSkip (xThen (cSeq ?_))
    obtain ⟨h, hh, hh16⟩ : ∃ k : Nat, hasV x.op = (k : Int) ∧ k < 16 := ⟨(hasV x.op).toNat, by simp at c16; omega, by omega⟩
    rw [hh] at hcs
    rw [hh]
    refine cReg (tQ rfl (qFunc rfl rfl) (tQ rfl (qAssign rfl) (tEnd (xThen ?_))))
    refine cCut (⟨fun (u : Unit) => [(2, .int .i64 g), (3, .bool false), (4, .pointer (some ⟨b4, 0, none⟩)), (5, .pointer (some ⟨b5, 0, none⟩)), (9, .pointer (some ⟨b9, 0, none⟩))], fun (u : Unit) => hp w, fun (u : Unit) => [blk b9 [.int .i64 (h : Nat)] 3, blk b5 [.int .i64 n] 3, blk b4 [.int .i64 x.op, .slice A m c, .int .i64 x.x, .int .i64 x.y, .int .i64 x.n] 44], fun (u : Unit) => ((h &&& 1 = 0 ∧ x.x = 0) ∨ (h &&& 1 ≠ 0 ∧ 0 ≤ x.x ∧ x.x < n)) ∧ ((h &&& 2 = 0 ∧ x.y = 0) ∨ (h &&& 2 ≠ 0 ∧ 0 ≤ x.y ∧ x.y < n)), fun (u : Unit) => 0⟩ : LI (Unit)) ?_ ?_
    · refine cSeq (cReg (tQ rfl (qMove rfl) (tQ rfl (qFieldAddr Tryd.runUnderlying44 rfl Tryd.sizeOf3 rfl rfl rfl) (tQ rfl (qLd1M 2 Tryd.isAgg3 rfl rfl rfl) (tCallQ rfl Tryd.call146 rfl rfl (fun w' s' => place_ (F := hp w') (bit := 1) (Sub.refl _) hh16 (by decide) (blk_at1 (s'.get 0 rfl) rfl) (blk_at1 (s'.get 1 rfl) rfl)) (tQ rfl (qNot rfl) (tQ rfl (qMove rfl) ?_)))))))
      refine tCase 23 rfl (fun g23 => ?_) (fun g23 => ?_)
      · refine tNo rfl rfl rfl rfl (tNo rfl rfl rfl rfl (tNo rfl rfl rfl rfl (tNo rfl rfl rfl rfl (tNo rfl rfl rfl rfl (tQ rfl (qPickT rfl rfl) (tEnd (xThen (cIfT rfl (cSeq (cReg (tQ rfl (qAssign rfl) (tEnd (xThen (cRet (xRetThen ?_)))))))))))))))
        refine xRet1 _ Tryd.results115 rfl fun w' s' => ⟨congrArg Value.bool ?_, s'.toExt (Sub.refl _)⟩
        rw [Bool.eq_iff_iff]
        rw [show (decide (instOk x n g false) = true) = instOk x n g false from decide_eq_true_eq, instOk_has hh]
        unfold plc
        clear hcs hh
        simp only [hxl] at *
        simp only [Go.V.dsl, reduceCtorEq] at *
        omega
      · refine tGo rfl rfl (tQ rfl (qMove rfl) (tGo rfl rfl (tQ rfl (qFieldAddr Tryd.runUnderlying44 rfl Tryd.sizeOf3 rfl rfl rfl) (tGo rfl rfl (tQ rfl (qLd1M 2 Tryd.isAgg3 rfl rfl rfl) (tGo rfl rfl (tCallQ rfl Tryd.call146 rfl rfl (fun w' s' => place_ (F := hp w') (bit := 2) (Sub.refl _) hh16 (by decide) (blk_at1 (s'.get 0 rfl) rfl) (blk_at1 (s'.get 1 rfl) rfl)) (tGo rfl rfl (tQ rfl (qNot rfl) (tQ rfl (qPickF rfl rfl) (tEnd (xThen ?_))))))))))))
        refine cIf rfl (fun c29 => ?_) (fun c29 => ?_)
        · refine cSeq (cReg (tQ rfl (qAssign rfl) (tEnd (xThen (cRet (xRetThen ?_))))))
          refine xRet1 _ Tryd.results115 rfl fun w' s' => ⟨congrArg Value.bool ?_, s'.toExt (Sub.refl _)⟩
          rw [Bool.eq_iff_iff]
          rw [show (decide (instOk x n g false) = true) = instOk x n g false from decide_eq_true_eq, instOk_has hh]
          unfold plc
          clear hcs hh
          simp only [hxl] at *
          simp only [Go.V.dsl, reduceCtorEq] at *
          omega
        · refine cSkip ?_
          refine xMeet _ () ?_ (le_of ⟨rfl, rfl, rfl, rfl, rfl, trivial⟩) (fun _ s => s)
          simp only [Go.V.dsl, reduceCtorEq] at *
          exact ⟨by omega, by omega⟩
    · rintro u ⟨hq1, hq2⟩
      refine cCut (⟨fun (u : Unit) => [(3, .bool false), (4, .pointer (some ⟨b4, 0, none⟩)), (9, .pointer (some ⟨b9, 0, none⟩))], fun (u : Unit) => hp w, fun (u : Unit) => [blk b9 [.int .i64 (h : Nat)] 3, blk b4 [.int .i64 x.op, .slice A m c, .int .i64 x.x, .int .i64 x.y, .int .i64 x.n] 44], fun (u : Unit) => (h &&& 4 = 0 ∧ x.n = 0) ∨ (h &&& 4 ≠ 0 ∧ ((x.op = 3 ∧ 2 ≤ x.n ∧ x.n ≤ 2 * g + 1) ∨ (x.op = 4 ∧ 1 ≤ x.n ∧ (x.n ≤ 6 ∨ (false = true ∧ x.n ≤ 8))) ∨ (x.op ≠ 3 ∧ x.op ≠ 4 ∧ 0 ≤ x.n ∧ x.n ≤ 63))), fun (u : Unit) => 0⟩ : LI (Unit)) ?_ ?_
      · refine cSeq (cReg (tQ rfl (qLd1M 0 Tryd.isAgg3 rfl rfl rfl) (tQ rfl (qAnd rfl rfl (c := ((h &&& 4 : Nat) : Int)) (and_i64 h (by omega) 4 (by omega))) (tQ rfl (qEq rfl rfl) (tQ rfl (qMove rfl) ?_)))))
        refine tCase 33 rfl (fun g33 => ?_) (fun g33 => ?_)
        · refine tGo rfl rfl (tQ rfl (qFieldAddr Tryd.runUnderlying44 rfl Tryd.sizeOf3 rfl rfl rfl) (tGo rfl rfl (tQ rfl (qLd1M 2 Tryd.isAgg3 rfl rfl rfl) (tGo rfl rfl (tQ rfl (qNe rfl rfl) (tQ rfl (qPickT rfl rfl) (tQ rfl (qMove rfl) ?_)))))))
          refine tCase 38 rfl (fun g38 => ?_) (fun g38 => ?_)
          · refine tNo rfl rfl rfl rfl (tNo rfl rfl rfl rfl (tNo rfl rfl rfl rfl (tNo rfl rfl rfl rfl (tNoU rfl rfl rfl (tNoU rfl rfl rfl (tNoU rfl rfl rfl (tNoU rfl rfl rfl (tNoU rfl rfl rfl (tNo rfl rfl rfl rfl (tQ rfl (qPickT rfl rfl) (tEnd (xThen ?_))))))))))))
            refine cIfT rfl (cSeq (cReg (tQ rfl (qAssign rfl) (tEnd (xThen (cRet (xRetThen ?_)))))))
            refine xRet1 _ Tryd.results115 rfl fun w' s' => ⟨congrArg Value.bool ?_, s'.toExt (Sub.refl _)⟩
            rw [Bool.eq_iff_iff]
            rw [show (decide (instOk x n g false) = true) = instOk x n g false from decide_eq_true_eq, instOk_has hh]
            unfold plc
            clear hcs hh
            simp only [hxl] at *
            simp only [Go.V.dsl, reduceCtorEq] at *
            omega
          · refine tGo rfl rfl (tQ rfl (qLd1M 0 Tryd.isAgg3 rfl rfl rfl) (tGo rfl rfl (tQ rfl (qAnd rfl rfl (c := ((h &&& 4 : Nat) : Int)) (and_i64 h (by omega) 4 (by omega))) (tGo rfl rfl (tQ rfl (qNe rfl rfl) (tGo rfl rfl (tQ rfl (qMove rfl) ?_)))))))
            refine tCase 42 rfl (fun g42 => ?_) (fun g42 => ?_)
            · refine tGo rfl rfl (tQ rfl (qLdNM 2 Tryd.isAgg44 Tryd.sizeOf44 rfl rfl rfl rfl) (tGo rfl rfl (tQ rfl (qMove rfl) (tGo rfl rfl (tQ rfl (qMove rfl) (tGo rfl rfl (tCallQ rfl Tryd.call147 (first := []) (captured := []) rfl rfl (fun w' s' => numberPF s'.sub hg) (tGo rfl rfl (tQ rfl (qNot rfl) (tGo rfl rfl (tQ rfl (qPickT rfl rfl) ?_)))))))))))
              refine tQ rfl (qPickF rfl rfl) (tEnd (xThen ?_))
              refine cIf rfl (fun c49 => ?_) (fun c49 => ?_)
              · refine cSeq (cReg (tQ rfl (qAssign rfl) (tEnd (xThen (cRet (xRetThen ?_))))))
                refine xRet1 _ Tryd.results115 rfl fun w' s' => ⟨congrArg Value.bool ?_, s'.toExt (Sub.refl _)⟩
                rw [Bool.eq_iff_iff]
                rw [show (decide (instOk x n g false) = true) = instOk x n g false from decide_eq_true_eq, instOk_has hh]
                unfold plc
                clear hcs hh
                simp only [hxl] at *
                simp only [Go.V.dsl, reduceCtorEq] at *
                omega
              · refine cSkip ?_
                refine xMeet _ () ?_ (le_of ⟨rfl, rfl, rfl, trivial⟩) (fun _ s => s.less (.cons_cons _ (.cons _ (.cons_cons _ (.slnil)))))
                simp only [Go.V.dsl, reduceCtorEq] at *
                omega
            · refine tNo rfl rfl rfl rfl (tNo rfl rfl rfl rfl (tNo rfl rfl rfl rfl (tNo rfl rfl rfl rfl (tNo rfl rfl rfl rfl (tGo rfl rfl (tQ rfl (qPickF rfl rfl) (tQ rfl (qPickF rfl rfl) (tEnd (xThen (cIfF rfl (cSkip ?_)))))))))))
              refine xMeet _ () ?_ (le_of ⟨rfl, rfl, rfl, trivial⟩) (fun _ s => s.less (.cons_cons _ (.cons _ (.cons_cons _ (.slnil)))))
              simp only [Go.V.dsl, reduceCtorEq] at *
              omega
        · refine tNo rfl rfl rfl rfl (tNo rfl rfl rfl rfl (tNo rfl rfl rfl rfl (tQ rfl (qPickF rfl rfl) (tQ rfl (qMove rfl) (tGo rfl rfl (tQ rfl (qLd1M 0 Tryd.isAgg3 rfl rfl rfl) (tGo rfl rfl (tQ rfl (qAnd rfl rfl (c := ((h &&& 4 : Nat) : Int)) (and_i64 h (by omega) 4 (by omega))) (tGo rfl rfl (tQ rfl (qNe rfl rfl) (tGo rfl rfl ?_)))))))))))
          refine tQ rfl (qMove rfl) ?_
          refine tCase 42 rfl (fun g42 => ?_) (fun g42 => ?_)
          · refine tGo rfl rfl (tQ rfl (qLdNM 2 Tryd.isAgg44 Tryd.sizeOf44 rfl rfl rfl rfl) (tGo rfl rfl (tQ rfl (qMove rfl) (tGo rfl rfl (tQ rfl (qMove rfl) (tGo rfl rfl (tCallQ rfl Tryd.call147 (first := []) (captured := []) rfl rfl (fun w' s' => numberPF s'.sub hg) (tGo rfl rfl (tQ rfl (qNot rfl) (tGo rfl rfl (tQ rfl (qPickT rfl rfl) ?_)))))))))))
            refine tQ rfl (qPickF rfl rfl) (tEnd (xThen ?_))
            refine cIf rfl (fun c49 => ?_) (fun c49 => ?_)
            · refine cSeq (cReg (tQ rfl (qAssign rfl) (tEnd (xThen (cRet (xRetThen ?_))))))
              refine xRet1 _ Tryd.results115 rfl fun w' s' => ⟨congrArg Value.bool ?_, s'.toExt (Sub.refl _)⟩
              rw [Bool.eq_iff_iff]
              rw [show (decide (instOk x n g false) = true) = instOk x n g false from decide_eq_true_eq, instOk_has hh]
              unfold plc
              clear hcs hh
              simp only [hxl] at *
              simp only [Go.V.dsl, reduceCtorEq] at *
              omega
            · refine cSkip ?_
              refine xMeet _ () ?_ (le_of ⟨rfl, rfl, rfl, trivial⟩) (fun _ s => s.less (.cons_cons _ (.cons _ (.cons_cons _ (.slnil)))))
              simp only [Go.V.dsl, reduceCtorEq] at *
              omega
          · refine tNo rfl rfl rfl rfl (tNo rfl rfl rfl rfl (tNo rfl rfl rfl rfl (tNo rfl rfl rfl rfl (tNo rfl rfl rfl rfl (tGo rfl rfl (tQ rfl (qPickF rfl rfl) (tQ rfl (qPickF rfl rfl) (tEnd (xThen (cIfF rfl (cSkip ?_)))))))))))
            refine xMeet _ () ?_ (le_of ⟨rfl, rfl, rfl, trivial⟩) (fun _ s => s.less (.cons_cons _ (.cons _ (.cons_cons _ (.slnil)))))
            simp only [Go.V.dsl, reduceCtorEq] at *
            omega
      · rintro u hq3
        refine cSeq (cSeq (cReg (tQ rfl (qLd1M 0 Tryd.isAgg3 rfl rfl rfl) (tQ rfl (qAnd rfl rfl (c := ((h &&& 8 : Nat) : Int)) (and_i64 h (by omega) 8 (by omega))) (tQ rfl (qEq rfl rfl) (tEnd (xThen ?_)))))))
        refine cIf rfl (fun c52 => ?_) (fun c52 => ?_)
        · refine cSeq (cReg (tQ rfl (qFieldAddr Tryd.runUnderlying44 rfl Tryd.sizeOf42 rfl rfl rfl) (tQ rfl (qLd1M 1 Tryd.isAgg42 rfl rfl rfl) (tQ rfl (qLen Tryd.runUnderlying42 rfl rfl) (tQ rfl (qEq rfl rfl) (tQ rfl (qAssign rfl) (tEnd (xThen (cRet (xRetThen ?_))))))))))
          refine xRet1 _ Tryd.results115 rfl fun w' s' => ⟨congrArg Value.bool ?_, s'.toExt (Sub.refl _)⟩
          rw [Bool.eq_iff_iff]
          rw [show (decide (instOk x n g false) = true) = instOk x n g false from decide_eq_true_eq, instOk_has hh]
          unfold plc
          clear hcs hh
          simp only [hxl] at *
          simp only [Go.V.dsl, reduceCtorEq] at *
          omega
        · refine cSkip (xThen (cSeq (cReg (tQ rfl (qFieldAddr Tryd.runUnderlying44 rfl Tryd.sizeOf42 rfl rfl rfl) (tQ rfl (qLd1M 1 Tryd.isAgg42 rfl rfl rfl) (tQ rfl (qLen Tryd.runUnderlying42 rfl rfl) (tQ rfl (qSub rfl rfl (w64 (by omega) (by omega))) (tQ rfl (qAssign rfl) (tEnd (xThen (cSeq (cReg (tQ rfl (qFieldAddr Tryd.runUnderlying44 rfl Tryd.sizeOf42 rfl rfl rfl) (tQ rfl (qLd1M 1 Tryd.isAgg42 rfl rfl rfl) (tCallQ rfl Tryd.call137 (first := []) (captured := []) rfl rfl (fun w' s' => checkS s'.sub hT hx hm) (tQ rfl (qEq rfl rfl) (tQ rfl (qMove rfl) ?_)))))))))))))))))
          refine tCase 65 rfl (fun g65 => ?_) (fun g65 => ?_)
          · refine tGo rfl rfl (tQ rfl (qMove rfl) (tGo rfl rfl (tQ rfl (qNot rfl) (tGo rfl rfl (tQ rfl (qMove rfl) (tNo rfl rfl rfl rfl (tNo rfl rfl rfl rfl (tGo rfl rfl (tQ rfl (qPickT rfl rfl) (tGo rfl rfl (tQ rfl (qMove rfl) ?_)))))))))))
            refine tNo rfl rfl rfl rfl (tNo rfl rfl rfl rfl (tNo rfl rfl rfl rfl (tNo rfl rfl rfl rfl (tNo rfl rfl rfl rfl (tNo rfl rfl rfl rfl (tNo rfl rfl rfl rfl (tGo rfl rfl (tQ rfl (qPickT rfl rfl) (tQ rfl (qPickT rfl rfl) (tQ rfl (qAssign rfl) (tEnd (xThen (cRet ?_)))))))))))))
            refine xRet1 _ Tryd.results115 rfl fun w' s' => ⟨congrArg Value.bool ?_, s'.toExt (Sub.refl _)⟩
            rw [Bool.eq_iff_iff]
            rw [show (decide (instOk x n g false) = true) = instOk x n g false from decide_eq_true_eq, instOk_has hh]
            unfold plc
            clear hcs hh
            simp only [hxl] at *
            simp only [Go.V.dsl, reduceCtorEq] at *
            omega
          · refine tNo rfl rfl rfl rfl (tNo rfl rfl rfl rfl (tNo rfl rfl rfl rfl (tNoU rfl rfl rfl (tNoU rfl rfl rfl (tNo rfl rfl rfl rfl (tNo rfl rfl rfl rfl (tNoU rfl rfl rfl (tNoU rfl rfl rfl (tNoU rfl rfl rfl (tNoU rfl rfl rfl (tNoU rfl rfl rfl ?_)))))))))))
            refine tNoU rfl rfl rfl (tNoU rfl rfl rfl (tNo rfl rfl rfl rfl (tQ rfl (qPickF rfl rfl) (tQ rfl (qAssign rfl) (tEnd (xThen (cRet ?_)))))))
            refine xRet1 _ Tryd.results115 rfl fun w' s' => ⟨congrArg Value.bool ?_, s'.toExt (Sub.refl _)⟩
            rw [Bool.eq_iff_iff]
            rw [show (decide (instOk x n g false) = true) = instOk x n g false from decide_eq_true_eq, instOk_has hh]
            unfold plc
            clear hcs hh
            simp only [hxl] at *
            simp only [Go.V.dsl, reduceCtorEq] at *
            omega

theorem fitsP {F : Hp} {w : World} {A : Option Addr} {m c : Nat} {x : Ins} {n g : Int} {raw : Bool} (hF : Sub F (hp w)) (hT : T F) (hx : RdR F A m x.set) (hm : m ≤ 1000000000) (hn : 0 ≤ n ∧ n ≤ 1000000000) (hg : 0 ≤ g ∧ g ≤ 1000000000) :
    Calls Tryd.prog 115 [.agg #[.int .i64 x.op, .slice A m c, .int .i64 x.x, .int .i64 x.y, .int .i64 x.n], .int .i64 n, .int .i64 g, .bool raw].toArray w (fun e w' => e = .returned (.bool (decide (instOk x n g raw))) ∧ Ext w w') := by
  cases raw
  · exact fitsPF hF hT hx hm hn hg
  · exact fitsPT hF hT hx hm hn hg
theorem checkP {F : Hp} {w : World} {A B : Option Addr} {n m cA cB : Nat} {p : Prg} (hF : Sub F (hp w)) (hT : T F) (hg : RdG F A n B m p) (hc : m ≤ cB) :
    Calls Tryd.prog 77 [.agg #[.slice A n cA, .slice B m cB, .bool p.raw]].toArray w (fun e w' => e = .returned (.int .i64 (checkE p)) ∧ Ext w w') := by
  replace hg := hg.mono hF
  obtain ⟨hgi, hgn, hb1, hb2, hb3⟩ := hg
  have hil := hgi.len
  have hnl := hgn.len
  have hBig : Big = 1048576 := rfl
  replace hT := hT.mono hF
  refine enter' 40 Tryd.func77 Tryd.ntmps77 rfl rfl (cSeq (cReg (tBox rfl rfl rfl (cs := [_, _, _]) fun b1 => (tQ rfl (qAssign rfl) (tEnd (xThen (cSeq (cSeq (cReg (tQ rfl (qFieldAddr Tryd.runUnderlying31 rfl Tryd.sizeOf28 rfl rfl rfl) (tQ rfl (qLd1M 0 Tryd.isAgg28 rfl rfl rfl) (tQ rfl (qLen Tryd.runUnderlying28 rfl rfl) (tQ rfl (qLt rfl rfl) (tQ rfl (qMove rfl) ?_))))))))))))))
  refine tCase 9 rfl (fun g9 => ?_) (fun g9 => ?_)
  · refine tNo rfl rfl rfl rfl (tNo rfl rfl rfl rfl (tNo rfl rfl rfl rfl (tNo rfl rfl rfl rfl (tQ rfl (qPickT rfl rfl) (tQ rfl (qMove rfl) (tNo rfl rfl rfl rfl (tNo rfl rfl rfl rfl (tNo rfl rfl rfl rfl (tNo rfl rfl rfl rfl (tQ rfl (qPickT rfl rfl) (tEnd (xThen ?_))))))))))))
    refine cIfT rfl (cSeq (cReg (tQ rfl (qAssign rfl) (tEnd (xThen (cRet (xRetThen ?_)))))))
    refine xRet1 _ Tryd.results77 rfl fun w' s' => ⟨?_, s'.toExt (Sub.refl _)⟩
    rw [checkE_bad]
    rintro ⟨h1, h2, _⟩
    rw [hil] at h1
    first | (simp at g9; omega) | (simp at g15; omega) | (simp [h2] at c20)
  · refine tGo rfl rfl (tQ rfl (qFieldAddr Tryd.runUnderlying31 rfl Tryd.sizeOf28 rfl rfl rfl) (tGo rfl rfl (tQ rfl (qLd1M 0 Tryd.isAgg28 rfl rfl rfl) (tGo rfl rfl (tQ rfl (qLen Tryd.runUnderlying28 rfl rfl) (tGo rfl rfl (tQ rfl (qGt rfl rfl) (tQ rfl (qPickF rfl rfl) (tQ rfl (qMove rfl) ?_)))))))))
    refine tCase 15 rfl (fun g15 => ?_) (fun g15 => ?_)
    · refine tNo rfl rfl rfl rfl (tNo rfl rfl rfl rfl (tNo rfl rfl rfl rfl (tNo rfl rfl rfl rfl (tQ rfl (qPickT rfl rfl) (tEnd (xThen (cIfT rfl (cSeq (cReg (tQ rfl (qAssign rfl) (tEnd (xThen (cRet (xRetThen ?_))))))))))))))
      refine xRet1 _ Tryd.results77 rfl fun w' s' => ⟨?_, s'.toExt (Sub.refl _)⟩
      rw [checkE_bad]
      rintro ⟨h1, h2, _⟩
      rw [hil] at h1
      first | (simp at g9; omega) | (simp at g15; omega) | (simp [h2] at c20)
    · refine tGo rfl rfl (tQ rfl (qFieldAddr Tryd.runUnderlying31 rfl Tryd.sizeOf29 rfl rfl rfl) (tGo rfl rfl (tQ rfl (qLd1M 0 Tryd.isAgg29 rfl rfl rfl) (tGo rfl rfl (tCallQ rfl Tryd.call114 (first := []) (captured := []) rfl rfl (fun w' s' => allNamed_ s'.sub hgn (by omega) (fun s hs => by have := hb3 s hs; omega) hc) (tGo rfl rfl (tQ rfl (qNot rfl) (tQ rfl (qPickF rfl rfl) (tEnd (xThen ?_))))))))))
      refine cIf rfl (fun c20 => ?_) (fun c20 => ?_)
      · refine cSeq (cReg (tQ rfl (qAssign rfl) (tEnd (xThen (cRet (xRetThen ?_))))))
        refine xRet1 _ Tryd.results77 rfl fun w' s' => ⟨?_, s'.toExt (Sub.refl _)⟩
        rw [checkE_bad]
        rintro ⟨h1, h2, _⟩
        rw [hil] at h1
        first | (simp at g9; omega) | (simp at g15; omega) | (simp [h2] at c20)
      · refine cSkip (xThen (cSeq (cSeq (cReg (tQ rfl (qFieldAddr Tryd.runUnderlying31 rfl Tryd.sizeOf28 rfl rfl rfl) (tQ rfl (qLd1M 0 Tryd.isAgg28 rfl rfl rfl) (tQ rfl (qLen Tryd.runUnderlying28 rfl rfl) (tQ rfl (qMove rfl) (tEnd (xThen (cBlock (cLoop (⟨fun (k : Nat) => [(1, .pointer (some ⟨b1, 0, none⟩)), (22, .slice A n cA), (23, .int .i64 n), (24, .int .i64 k)], fun (k : Nat) => hp w, fun (k : Nat) => [blk b1 [.slice A n cA, .slice B m cB, .bool p.raw] 31], fun (k : Nat) => k ≤ n ∧ ∀ j, j < k → instOk (gI p.insts j) p.insts.length p.names.length p.raw, fun (k : Nat) => n - k⟩ : LI (Nat)) (loopStart _ 0 ⟨by omega, fun j hj => by omega⟩ (le_of ⟨rfl, rfl, rfl, rfl, trivial⟩) (fun _ s => s)) ?_))))))))))))
        rintro k ⟨hk, hok⟩
        refine cSeq (cReg (tQ rfl (qLt rfl rfl) (tEnd (xThen (cSeq ?_)))))
        refine cIf rfl (fun c25 => ?_) (fun c25 => ?_)
        · refine cSkip (xThen (cSeq (cBlock (cSeq ?_))))
          have hlt : k < n := by simp at c25; omega
          obtain ⟨b, o, rfl, h1⟩ := hgi.at_ (by omega)
          obtain ⟨B', m', c', hR, hN⟩ := h1 k hlt
          have hms : m' ≤ 1000000000 := by have := (hgi.wf _ (gI_mem (by rw [hil]; exact hlt))).2.2.2.2; rw [hR.len] at this; omega
          refine cReg (tQ rfl (qIdxAddr Tryd.runUnderlying28 Tryd.sizeOf44 rfl rfl rfl (by omega)) (tQ rfl (qLdN Tryd.isAgg44 Tryd.sizeOf44 rfl hN) (tAlloc rfl Tryd.zeroValue44 rfl (cs := [_, _, _, _, _]) fun b4 => (tStoreN 0 Tryd.sizeOf44 rfl rfl rfl (by simp [Value.oneCell']) rfl (by simp) (tEnd (xThen (cSeq (cReg (tQ rfl (qLdNM 0 Tryd.isAgg44 Tryd.sizeOf44 rfl rfl rfl rfl) (tQ rfl (qFieldAddr Tryd.runUnderlying31 rfl Tryd.sizeOf28 rfl rfl rfl) (tQ rfl (qLd1M 1 Tryd.isAgg28 rfl rfl rfl) (tQ rfl (qLen Tryd.runUnderlying28 rfl rfl) (tQ rfl (qFieldAddr Tryd.runUnderlying31 rfl Tryd.sizeOf29 rfl rfl rfl) (tQ rfl (qLd1M 1 Tryd.isAgg29 rfl rfl rfl) ?_))))))))))))))
          refine tQ rfl (qLen Tryd.runUnderlying29 rfl rfl) (tQ rfl (qFieldAddr Tryd.runUnderlying31 rfl Tryd.sizeOf4 rfl rfl rfl) (tQ rfl (qLd1M 1 Tryd.isAgg4 rfl rfl rfl) (tCallQ rfl Tryd.call115 (first := []) (captured := []) rfl rfl (fun w' s' => fitsP s'.sub hT hR hms (by omega) (by omega)) (tQ rfl (qNot rfl) (tEnd (xThen ?_))))))
          refine cIf rfl (fun c38 => ?_) (fun c38 => ?_)
          · refine cSeq (cReg (tQ rfl (qAssign rfl) (tEnd (xThen (cRet (xRetBlock (xRetThen (xRetThen (xRetBlock (xRetThen ?_))))))))))
            refine xRet1 _ Tryd.results77 rfl fun w' s' => ⟨?_, s'.toExt (Sub.refl _)⟩
            rw [checkE_bad]
            rintro ⟨_, _, h⟩
            have := h k (by omega)
            rw [hil, hnl] at this
            simp [this] at c38
          · refine cSkip (xBlock (xThen (cReg (tQ rfl (qAdd rfl rfl (w64 (by omega) (by omega))) (tQ rfl (qMove rfl) (tEnd ?_))))))
            refine xRound _ (k + 1) ?_ (by dsimp only; omega) (le_of ⟨rfl, rfl, rfl, rfl, trivial⟩) (fun _ s => s.less (.cons _ (.cons_cons _ (.slnil))))
            refine ⟨by omega, fun j hj => ?_⟩
            rcases Nat.lt_or_ge j k with h | h
            · exact hok j h
            · obtain rfl : j = k := by omega
              rw [hil, hnl]
              simpa using c38
        · refine cExit (xExitThen (xExitThen (xExitBlock (xThen (cSeq (cReg (tQ rfl (qAssign rfl) (tEnd (xThen (cRet ?_))))))))))
          refine xRet1 _ Tryd.results77 rfl fun w' s' => ⟨?_, s'.toExt (Sub.refl _)⟩
          have hk' : k = n := by simp at c25; omega
          subst hk'
          rw [checkE_ok]
          rw [← hil] at hok
          exact ⟨by rw [hil]; simp at *; omega, by simpa using c20, hok⟩

end Go.V
