/-
  Lemmas of this claim's own, part 5: contracts of the functions that the statement reaches, and the plain facts behind them.
-/
import Derived.Test.YtkebkfipjodnnaaDoorB03
set_option linter.unusedVariables false
set_option linter.unusedSimpArgs false
namespace Go.V
open Go.Proofs
set_option linter.unusedVariables false
set_option linter.unusedSimpArgs false

theorem fits12 {F : Hp} {w : World} {A : Option Addr} {n c : Nat} {rs : List Rng} {raw : Bool} (hF : Sub F (hp w)) (hx : RdR F A n rs) (hn : n ≤ 1000000000) :
    Calls Tryd.prog 108 [.slice A n c, .bool raw].toArray w (fun e w' => e = .returned (.bool (decide (fitsOk rs raw))) ∧ Ext w w') := by
  replace hx := hx.mono hF
  have hxl := hx.len
  have hsc := setE_cases rs
  refine enter' 25 Tryd.func108 Tryd.ntmps108 rfl rfl (cSeq (cReg (tQ rfl (qAssign rfl) (tEnd (xThen (cSeq (cSeq (cReg (tQ rfl (qMove rfl) (tCallQ rfl Tryd.call141 (first := []) (captured := []) rfl rfl (fun w' s' => check02 s'.sub hx hn) (tQ rfl (qNe rfl rfl) (tEnd (xThen ?_)))))))))))))
  refine cIf rfl (fun c7 => ?_) (fun c7 => ?_)
  · refine cSeq (cReg (tQ rfl (qAssign rfl) (tEnd (xThen (cRet (xRetThen ?_))))))
    refine xRet1 _ Tryd.results108 rfl fun w' s' => ⟨congrArg Value.bool ?_, s'.toExt (Sub.refl _)⟩
    rw [Bool.eq_iff_iff]
    simp only [fitsOk, hxl]
    simp only [Go.V.dsl, reduceCtorEq] at *
    first | (cases raw <;> simp_all <;> omega) | (cases raw <;> simp_all)
  · refine cSkip (xThen (cSeq (cReg (tQ rfl (qMove rfl) (tQ rfl (qNot rfl) (tQ rfl (qMove rfl) ?_))))))
    refine tCase 10 rfl (fun g10 => ?_) (fun g10 => ?_)
    · refine tNo rfl rfl rfl rfl (tNo rfl rfl rfl rfl (tNo rfl rfl rfl rfl (tQ rfl (qPickT rfl rfl) (tQ rfl (qMove rfl) (tNo rfl rfl rfl rfl (tNo rfl rfl rfl rfl (tNo rfl rfl rfl rfl (tNo rfl rfl rfl rfl (tNo rfl rfl rfl rfl (tNo rfl rfl rfl rfl (tNo rfl rfl rfl rfl ?_)))))))))))
      refine tNo rfl rfl rfl rfl (tQ rfl (qPickT rfl rfl) (tQ rfl (qAssign rfl) (tEnd (xThen (cRet ?_)))))
      refine xRet1 _ Tryd.results108 rfl fun w' s' => ⟨congrArg Value.bool ?_, s'.toExt (Sub.refl _)⟩
      rw [Bool.eq_iff_iff]
      simp only [fitsOk, hxl]
      simp only [Go.V.dsl, reduceCtorEq] at *
      first | (cases raw <;> simp_all <;> omega) | (cases raw <;> simp_all)
    · refine tGo rfl rfl (tQ rfl (qMove rfl) (tGo rfl rfl (tQ rfl (qLen Tryd.runUnderlying42 rfl rfl) (tGo rfl rfl (tQ rfl (qEq rfl rfl) (tQ rfl (qPickF rfl rfl) (tQ rfl (qMove rfl) ?_)))))))
      refine tCase 15 rfl (fun g15 => ?_) (fun g15 => ?_)
      · refine tNo rfl rfl rfl rfl (tNo rfl rfl rfl rfl (tNo rfl rfl rfl rfl (tNo rfl rfl rfl rfl (tNo rfl rfl rfl rfl (tNo rfl rfl rfl rfl (tNo rfl rfl rfl rfl (tNo rfl rfl rfl rfl (tQ rfl (qPickT rfl rfl) (tQ rfl (qAssign rfl) (tEnd (xThen (cRet ?_))))))))))))
        refine xRet1 _ Tryd.results108 rfl fun w' s' => ⟨congrArg Value.bool ?_, s'.toExt (Sub.refl _)⟩
        rw [Bool.eq_iff_iff]
        simp only [fitsOk, hxl]
        simp only [Go.V.dsl, reduceCtorEq] at *
        first | (cases raw <;> simp_all <;> omega) | (cases raw <;> simp_all)
      · have hn0 : 0 < n := by simp at g15; omega
        obtain ⟨b, o, rfl, hN, hlo, hhi, hwf⟩ := hx.open_ (i := n - 1) (by omega)
        refine tGo rfl rfl (tQ rfl (qMove rfl) (tGo rfl rfl (tQ rfl (qMove rfl) (tGo rfl rfl (tQ rfl (qLen Tryd.runUnderlying42 rfl rfl) (tGo rfl rfl (tQ rfl (qSub rfl rfl (w64 (by omega) (by omega))) (tGo rfl rfl (tQ rfl (qIdxAddr Tryd.runUnderlying42 Tryd.sizeOf54 rfl rfl (j := n - 1) (by omega) (by omega)) (tGo rfl rfl (tQ rfl (qFieldAddr Tryd.runUnderlying54 rfl Tryd.sizeOf21 rfl rfl rfl) ?_)))))))))))
        refine tGo rfl rfl (tQ rfl (qLd1 Tryd.isAgg21 rfl (hhi (n - 1) (by omega))) (tGo rfl rfl (tQ rfl (qLe rfl rfl) (tQ rfl (qPickF rfl rfl) (tQ rfl (qAssign rfl) (tEnd (xThen (cRet ?_))))))))
        refine xRet1 _ Tryd.results108 rfl fun w' s' => ⟨congrArg Value.bool ?_, s'.toExt (Sub.refl _)⟩
        rw [Bool.eq_iff_iff]
        simp only [fitsOk, hxl]
        simp only [Go.V.dsl, reduceCtorEq] at *
        first | (cases raw <;> simp_all <;> omega) | (cases raw <;> simp_all)

theorem inst12T {F : Hp} {w : World} {A : Option Addr} {m c : Nat} {x : Ins} {n g : Int} (hF : Sub F (hp w)) (hx : RdR F A m x.set) (hm : m ≤ 1000000000) (hn : 0 ≤ n ∧ n ≤ 1000000000) (hg : 0 ≤ g ∧ g ≤ 1000000000) :
    Calls Tryd.prog 51 [.agg #[.int .i64 x.op, .slice A m c, .int .i64 x.x, .int .i64 x.y, .int .i64 x.n], .int .i64 n, .int .i64 g, .bool true].toArray w (fun e w' => e = .returned (.bool (decide (instOk x n g true))) ∧ Ext w w') := by
  replace hx := hx.mono hF
  have hxl := hx.len
  have hsc := setE_cases x.set
  refine enter' 131 Tryd.func51 Tryd.ntmps51 rfl rfl (cSeq (cReg (tBox rfl rfl rfl (cs := [_, _, _, _, _]) fun b4 => (tQ rfl (qAssign rfl) (tEnd (xThen (cSeq (cReg (tQ rfl (qAssign rfl) (tEnd (xThen (cSeq (cSeq (cReg (tQ rfl (qMove rfl) (tEnd (xThen (cIfT rfl (cReg (tQ rfl (qAssign rfl) ?_))))))))))))))))))))
  refine tEnd (xThen (cSeq (cSeq (cReg (tQ rfl (qFieldAddr Tryd.runUnderlying44 rfl Tryd.sizeOf3 rfl rfl rfl) (tQ rfl (qLd1M 0 Tryd.isAgg3 rfl rfl rfl) (tQ rfl (qNe rfl rfl) (tQ rfl (qMove rfl) ?_))))))))
  refine tCase 14 rfl (fun g14 => ?_) (fun g14 => ?_)
  · refine tGo rfl rfl (tQ rfl (qFieldAddr Tryd.runUnderlying44 rfl Tryd.sizeOf42 rfl rfl rfl) (tGo rfl rfl (tQ rfl (qLd1M 0 Tryd.isAgg42 rfl rfl rfl) (tGo rfl rfl (tQ rfl (qLen Tryd.runUnderlying42 rfl rfl) (tGo rfl rfl (tQ rfl (qGt rfl rfl) (tQ rfl (qPickT rfl rfl) (tEnd (xThen ?_))))))))))
    refine cIf rfl (fun c19 => ?_) (fun c19 => ?_)
    · refine cSeq (cReg (tQ rfl (qAssign rfl) (tEnd (xThen (cRet (xRetThen ?_))))))
      refine xRet1 _ Tryd.results51 rfl fun w' s' => ⟨congrArg Value.bool ?_, s'.toExt (Sub.refl _)⟩
      rw [Bool.eq_iff_iff]
      simp only [instOk, fitsOk, hxl] at *
      simp only [Go.V.dsl, reduceCtorEq] at *
      omega
    · refine cSkip (xThen (cSeq (cSeq (cReg (tQ rfl (qFieldAddr Tryd.runUnderlying44 rfl Tryd.sizeOf3 rfl rfl rfl) (tQ rfl (qLd1M 0 Tryd.isAgg3 rfl rfl rfl) (tQ rfl (qNe rfl rfl) (tQ rfl (qMove rfl) ?_))))))))
      refine tCase 23 rfl (fun g23 => ?_) (fun g23 => ?_)
      · refine tGo rfl rfl (tQ rfl (qFieldAddr Tryd.runUnderlying44 rfl Tryd.sizeOf3 rfl rfl rfl) (tGo rfl rfl (tQ rfl (qLd1M 0 Tryd.isAgg3 rfl rfl rfl) (tGo rfl rfl (tQ rfl (qNe rfl rfl) (tQ rfl (qPickT rfl rfl) (tEnd (xThen ?_))))))))
        refine cIf rfl (fun c27 => ?_) (fun c27 => ?_)
        · refine cSeq (cReg (tQ rfl (qAssign rfl) (tEnd (xThen (cRet (xRetThen ?_))))))
          refine xRet1 _ Tryd.results51 rfl fun w' s' => ⟨congrArg Value.bool ?_, s'.toExt (Sub.refl _)⟩
          rw [Bool.eq_iff_iff]
          simp only [instOk, fitsOk, hxl] at *
          simp only [Go.V.dsl, reduceCtorEq] at *
          omega
        · refine cSkip (xThen (cSeq (cSeq (cReg (tQ rfl (qFieldAddr Tryd.runUnderlying44 rfl Tryd.sizeOf3 rfl rfl rfl) (tQ rfl (qLd1M 0 Tryd.isAgg3 rfl rfl rfl) (tEnd (xThen (cBlock (cSeq (cReg (tQ rfl (qEq rfl rfl) (tQ rfl (qAssign rfl) (tEnd (xThen ?_)))))))))))))))
          refine cIf rfl (fun c30 => ?_) (fun c30 => ?_)
          · refine cSeq (cReg (tQ rfl (qFieldAddr Tryd.runUnderlying44 rfl Tryd.sizeOf3 rfl rfl rfl) (tQ rfl (qLd1M 0 Tryd.isAgg3 rfl rfl rfl) (tQ rfl (qMove rfl) (tQ rfl (qSub rfl rfl (w64 (by omega) (by omega))) (tCallQ rfl Tryd.call107 (first := []) (captured := []) rfl rfl (fun w' s' => within_) (tQ rfl (qMove rfl) ?_)))))))
            refine tCase 37 rfl (fun g37 => ?_) (fun g37 => ?_)
            · refine tGo rfl rfl (tQ rfl (qFieldAddr Tryd.runUnderlying44 rfl Tryd.sizeOf3 rfl rfl rfl) (tGo rfl rfl (tQ rfl (qLd1M 0 Tryd.isAgg3 rfl rfl rfl) (tGo rfl rfl (tQ rfl (qEq rfl rfl) (tQ rfl (qPickT rfl rfl) (tQ rfl (qMove rfl) ?_)))))))
              refine tCase 42 rfl (fun g42 => ?_) (fun g42 => ?_)
              · refine tGo rfl rfl (tQ rfl (qFieldAddr Tryd.runUnderlying44 rfl Tryd.sizeOf42 rfl rfl rfl) (tGo rfl rfl (tQ rfl (qLd1M 0 Tryd.isAgg42 rfl rfl rfl) (tGo rfl rfl (tQ rfl (qMove rfl) (tGo rfl rfl (tCallQ rfl Tryd.call108 (first := []) (captured := []) rfl rfl (fun w' s' => fits12 s'.sub hx hm) (tQ rfl (qPickT rfl rfl) (tQ rfl (qAssign rfl) (tEnd (xThen (cRet (xRetBlock (xRetThen ?_))))))))))))))
                refine xRet1 _ Tryd.results51 rfl fun w' s' => ⟨congrArg Value.bool ?_, s'.toExt (Sub.refl _)⟩
                rw [Bool.eq_iff_iff]
                simp only [instOk, fitsOk, hxl] at *
                simp only [Go.V.dsl, reduceCtorEq] at *
                omega
              · refine tNo rfl rfl rfl rfl (tNo rfl rfl rfl rfl (tNo rfl rfl rfl rfl (tNo rfl rfl rfl rfl (tQ rfl (qPickF rfl rfl) (tQ rfl (qAssign rfl) (tEnd (xThen (cRet (xRetBlock (xRetThen ?_))))))))))
                refine xRet1 _ Tryd.results51 rfl fun w' s' => ⟨congrArg Value.bool ?_, s'.toExt (Sub.refl _)⟩
                rw [Bool.eq_iff_iff]
                simp only [instOk, fitsOk, hxl] at *
                simp only [Go.V.dsl, reduceCtorEq] at *
                omega
            · refine tNo rfl rfl rfl rfl (tNo rfl rfl rfl rfl (tNo rfl rfl rfl rfl (tQ rfl (qPickF rfl rfl) (tQ rfl (qMove rfl) (tNo rfl rfl rfl rfl (tNo rfl rfl rfl rfl (tNo rfl rfl rfl rfl (tNo rfl rfl rfl rfl (tQ rfl (qPickF rfl rfl) (tQ rfl (qAssign rfl) (tEnd (xThen (cRet (xRetBlock (xRetThen ?_)))))))))))))))
              refine xRet1 _ Tryd.results51 rfl fun w' s' => ⟨congrArg Value.bool ?_, s'.toExt (Sub.refl _)⟩
              rw [Bool.eq_iff_iff]
              simp only [instOk, fitsOk, hxl] at *
              simp only [Go.V.dsl, reduceCtorEq] at *
              omega
          · refine cSeq (cReg (tQ rfl (qEq rfl rfl) (tQ rfl (qAssign rfl) (tEnd (xThen ?_)))))
            refine cIf rfl (fun c48 => ?_) (fun c48 => ?_)
            · refine cSeq (cReg (tQ rfl (qFieldAddr Tryd.runUnderlying44 rfl Tryd.sizeOf3 rfl rfl rfl) (tQ rfl (qLd1M 0 Tryd.isAgg3 rfl rfl rfl) (tQ rfl (qMove rfl) (tQ rfl (qSub rfl rfl (w64 (by omega) (by omega))) (tCallQ rfl Tryd.call107 (first := []) (captured := []) rfl rfl (fun w' s' => within_) (tQ rfl (qMove rfl) ?_)))))))
              refine tCase 55 rfl (fun g55 => ?_) (fun g55 => ?_)
              · refine tGo rfl rfl (tQ rfl (qFieldAddr Tryd.runUnderlying44 rfl Tryd.sizeOf3 rfl rfl rfl) (tGo rfl rfl (tQ rfl (qLd1M 0 Tryd.isAgg3 rfl rfl rfl) (tGo rfl rfl (tQ rfl (qMove rfl) (tGo rfl rfl (tQ rfl (qSub rfl rfl (w64 (by omega) (by omega))) (tGo rfl rfl (tCallQ rfl Tryd.call107 (first := []) (captured := []) rfl rfl (fun w' s' => within_) (tQ rfl (qPickT rfl rfl) (tQ rfl (qMove rfl) ?_)))))))))))
                refine tCase 62 rfl (fun g62 => ?_) (fun g62 => ?_)
                · refine tGo rfl rfl (tQ rfl (qFieldAddr Tryd.runUnderlying44 rfl Tryd.sizeOf3 rfl rfl rfl) (tGo rfl rfl (tQ rfl (qLd1M 0 Tryd.isAgg3 rfl rfl rfl) (tGo rfl rfl (tQ rfl (qEq rfl rfl) (tQ rfl (qPickT rfl rfl) (tQ rfl (qAssign rfl) (tEnd (xThen (cRet (xRetBlock (xRetThen ?_))))))))))))
                  refine xRet1 _ Tryd.results51 rfl fun w' s' => ⟨congrArg Value.bool ?_, s'.toExt (Sub.refl _)⟩
                  rw [Bool.eq_iff_iff]
                  simp only [instOk, fitsOk, hxl] at *
                  simp only [Go.V.dsl, reduceCtorEq] at *
                  omega
                · refine tNo rfl rfl rfl rfl (tNo rfl rfl rfl rfl (tNo rfl rfl rfl rfl (tQ rfl (qPickF rfl rfl) (tQ rfl (qAssign rfl) (tEnd (xThen (cRet (xRetBlock (xRetThen ?_)))))))))
                  refine xRet1 _ Tryd.results51 rfl fun w' s' => ⟨congrArg Value.bool ?_, s'.toExt (Sub.refl _)⟩
                  rw [Bool.eq_iff_iff]
                  simp only [instOk, fitsOk, hxl] at *
                  simp only [Go.V.dsl, reduceCtorEq] at *
                  omega
              · refine tNo rfl rfl rfl rfl (tNo rfl rfl rfl rfl (tNo rfl rfl rfl rfl (tNo rfl rfl rfl rfl (tNo rfl rfl rfl rfl (tQ rfl (qPickF rfl rfl) (tQ rfl (qMove rfl) (tNo rfl rfl rfl rfl (tNo rfl rfl rfl rfl (tNo rfl rfl rfl rfl (tQ rfl (qPickF rfl rfl) (tQ rfl (qAssign rfl) ?_)))))))))))
                refine tEnd (xThen (cRet (xRetBlock (xRetThen ?_))))
                refine xRet1 _ Tryd.results51 rfl fun w' s' => ⟨congrArg Value.bool ?_, s'.toExt (Sub.refl _)⟩
                rw [Bool.eq_iff_iff]
                simp only [instOk, fitsOk, hxl] at *
                simp only [Go.V.dsl, reduceCtorEq] at *
                omega
            · refine cSeq (cReg (tQ rfl (qEq rfl rfl) (tQ rfl (qAssign rfl) (tEnd (xThen ?_)))))
              refine cIf rfl (fun c67 => ?_) (fun c67 => ?_)
              · refine cSeq (cReg (tQ rfl (qFieldAddr Tryd.runUnderlying44 rfl Tryd.sizeOf3 rfl rfl rfl) (tQ rfl (qLd1M 0 Tryd.isAgg3 rfl rfl rfl) (tQ rfl (qMove rfl) (tQ rfl (qSub rfl rfl (w64 (by omega) (by omega))) (tCallQ rfl Tryd.call107 (first := []) (captured := []) rfl rfl (fun w' s' => within_) (tQ rfl (qMove rfl) ?_)))))))
                refine tCase 74 rfl (fun g74 => ?_) (fun g74 => ?_)
                · refine tGo rfl rfl (tQ rfl (qFieldAddr Tryd.runUnderlying44 rfl Tryd.sizeOf3 rfl rfl rfl) (tGo rfl rfl (tQ rfl (qLd1M 0 Tryd.isAgg3 rfl rfl rfl) (tGo rfl rfl (tQ rfl (qMove rfl) (tGo rfl rfl (tQ rfl (qMul rfl rfl (w64 (by omega) (by omega))) (tGo rfl rfl (tQ rfl (qAdd rfl rfl (w64 (by omega) (by omega))) (tGo rfl rfl (tCallQ rfl Tryd.call107 (first := []) (captured := []) rfl rfl (fun w' s' => within_) ?_)))))))))))
                  refine tQ rfl (qPickT rfl rfl) (tQ rfl (qAssign rfl) (tEnd (xThen (cRet (xRetBlock (xRetThen ?_))))))
                  refine xRet1 _ Tryd.results51 rfl fun w' s' => ⟨congrArg Value.bool ?_, s'.toExt (Sub.refl _)⟩
                  rw [Bool.eq_iff_iff]
                  simp only [instOk, fitsOk, hxl] at *
                  simp only [Go.V.dsl, reduceCtorEq] at *
                  omega
                · refine tNo rfl rfl rfl rfl (tNo rfl rfl rfl rfl (tNo rfl rfl rfl rfl (tNo rfl rfl rfl rfl (tNo rfl rfl rfl rfl (tNo rfl rfl rfl rfl (tQ rfl (qPickF rfl rfl) (tQ rfl (qAssign rfl) (tEnd (xThen (cRet (xRetBlock (xRetThen ?_))))))))))))
                  refine xRet1 _ Tryd.results51 rfl fun w' s' => ⟨congrArg Value.bool ?_, s'.toExt (Sub.refl _)⟩
                  rw [Bool.eq_iff_iff]
                  simp only [instOk, fitsOk, hxl] at *
                  simp only [Go.V.dsl, reduceCtorEq] at *
                  omega
              · refine cSeq (cReg (tQ rfl (qEq rfl rfl) (tQ rfl (qAssign rfl) (tEnd (xThen ?_)))))
                refine cIf rfl (fun c82 => ?_) (fun c82 => ?_)
                · refine cSeq (cReg (tQ rfl (qFieldAddr Tryd.runUnderlying44 rfl Tryd.sizeOf3 rfl rfl rfl) (tQ rfl (qLd1M 0 Tryd.isAgg3 rfl rfl rfl) (tQ rfl (qMove rfl) (tQ rfl (qSub rfl rfl (w64 (by omega) (by omega))) (tCallQ rfl Tryd.call107 (first := []) (captured := []) rfl rfl (fun w' s' => within_) (tQ rfl (qMove rfl) ?_)))))))
                  refine tCase 89 rfl (fun g89 => ?_) (fun g89 => ?_)
                  · refine tGo rfl rfl (tQ rfl (qFieldAddr Tryd.runUnderlying44 rfl Tryd.sizeOf3 rfl rfl rfl) (tGo rfl rfl (tQ rfl (qLd1M 0 Tryd.isAgg3 rfl rfl rfl) (tGo rfl rfl (tQ rfl (qMove rfl) (tGo rfl rfl (tCallQ rfl Tryd.call107 (first := []) (captured := []) rfl rfl (fun w' s' => within_) (tQ rfl (qPickT rfl rfl) (tQ rfl (qAssign rfl) (tEnd (xThen (cRet (xRetBlock (xRetThen ?_))))))))))))))
                    refine xRet1 _ Tryd.results51 rfl fun w' s' => ⟨congrArg Value.bool ?_, s'.toExt (Sub.refl _)⟩
                    rw [Bool.eq_iff_iff]
                    simp only [instOk, fitsOk, hxl] at *
                    simp only [Go.V.dsl, reduceCtorEq] at *
                    omega
                  · refine tNo rfl rfl rfl rfl (tNo rfl rfl rfl rfl (tNo rfl rfl rfl rfl (tNo rfl rfl rfl rfl (tQ rfl (qPickF rfl rfl) (tQ rfl (qAssign rfl) (tEnd (xThen (cRet (xRetBlock (xRetThen ?_))))))))))
                    refine xRet1 _ Tryd.results51 rfl fun w' s' => ⟨congrArg Value.bool ?_, s'.toExt (Sub.refl _)⟩
                    rw [Bool.eq_iff_iff]
                    simp only [instOk, fitsOk, hxl] at *
                    simp only [Go.V.dsl, reduceCtorEq] at *
                    omega
                · refine cSeq (cSeq (cReg (tQ rfl (qEq rfl rfl) (tQ rfl (qAssign rfl) (tEnd (xThen ?_))))))
                  refine cIf rfl (fun c95 => ?_) (fun c95 => ?_)
                  · refine cSkip (xThen ?_)
                    refine cIf rfl (fun c95 => ?_) (fun c95 => ?_)
                    · refine cSeq (cReg (tQ rfl (qFieldAddr Tryd.runUnderlying44 rfl Tryd.sizeOf3 rfl rfl rfl) (tQ rfl (qLd1M 0 Tryd.isAgg3 rfl rfl rfl) (tQ rfl (qMove rfl) (tQ rfl (qSub rfl rfl (w64 (by omega) (by omega))) (tCallQ rfl Tryd.call107 (first := []) (captured := []) rfl rfl (fun w' s' => within_) (tQ rfl (qMove rfl) ?_)))))))
                      refine tCase 103 rfl (fun g103 => ?_) (fun g103 => ?_)
                      · refine tGo rfl rfl (tQ rfl (qFieldAddr Tryd.runUnderlying44 rfl Tryd.sizeOf3 rfl rfl rfl) (tGo rfl rfl (tQ rfl (qLd1M 0 Tryd.isAgg3 rfl rfl rfl) (tGo rfl rfl (tCallQ rfl Tryd.call107 (first := []) (captured := []) rfl rfl (fun w' s' => within_) (tQ rfl (qPickT rfl rfl) (tQ rfl (qAssign rfl) (tEnd (xThen (cRet (xRetBlock (xRetThen ?_))))))))))))
                        refine xRet1 _ Tryd.results51 rfl fun w' s' => ⟨congrArg Value.bool ?_, s'.toExt (Sub.refl _)⟩
                        rw [Bool.eq_iff_iff]
                        simp only [instOk, fitsOk, hxl] at *
                        simp only [Go.V.dsl, reduceCtorEq] at *
                        omega
                      · refine tNo rfl rfl rfl rfl (tNo rfl rfl rfl rfl (tNo rfl rfl rfl rfl (tQ rfl (qPickF rfl rfl) (tQ rfl (qAssign rfl) (tEnd (xThen (cRet (xRetBlock (xRetThen ?_)))))))))
                        refine xRet1 _ Tryd.results51 rfl fun w' s' => ⟨congrArg Value.bool ?_, s'.toExt (Sub.refl _)⟩
                        rw [Bool.eq_iff_iff]
                        simp only [instOk, fitsOk, hxl] at *
                        simp only [Go.V.dsl, reduceCtorEq] at *
                        omega
                    · refine cSeq (cReg (tQ rfl (qEq rfl rfl) (tQ rfl (qAssign rfl) (tEnd (xThen ?_)))))
                      refine cIf rfl (fun c108 => ?_) (fun c108 => ?_)
                      · refine cSeq (cReg (tQ rfl (qFieldAddr Tryd.runUnderlying44 rfl Tryd.sizeOf3 rfl rfl rfl) (tQ rfl (qLd1M 0 Tryd.isAgg3 rfl rfl rfl) (tQ rfl (qMove rfl) (tQ rfl (qSub rfl rfl (w64 (by omega) (by omega))) (tCallQ rfl Tryd.call107 (first := []) (captured := []) rfl rfl (fun w' s' => within_) (tQ rfl (qMove rfl) ?_)))))))
                        refine tCase 115 rfl (fun g115 => ?_) (fun g115 => ?_)
                        · refine tGo rfl rfl (tQ rfl (qFieldAddr Tryd.runUnderlying44 rfl Tryd.sizeOf3 rfl rfl rfl) (tGo rfl rfl (tQ rfl (qLd1M 0 Tryd.isAgg3 rfl rfl rfl) (tGo rfl rfl (tQ rfl (qEq rfl rfl) (tQ rfl (qPickT rfl rfl) (tQ rfl (qAssign rfl) (tEnd (xThen (cRet (xRetBlock (xRetThen ?_))))))))))))
                          refine xRet1 _ Tryd.results51 rfl fun w' s' => ⟨congrArg Value.bool ?_, s'.toExt (Sub.refl _)⟩
                          rw [Bool.eq_iff_iff]
                          simp only [instOk, fitsOk, hxl] at *
                          simp only [Go.V.dsl, reduceCtorEq] at *
                          omega
                        · refine tNo rfl rfl rfl rfl (tNo rfl rfl rfl rfl (tNo rfl rfl rfl rfl (tQ rfl (qPickF rfl rfl) (tQ rfl (qAssign rfl) (tEnd (xThen (cRet (xRetBlock (xRetThen ?_)))))))))
                          refine xRet1 _ Tryd.results51 rfl fun w' s' => ⟨congrArg Value.bool ?_, s'.toExt (Sub.refl _)⟩
                          rw [Bool.eq_iff_iff]
                          simp only [instOk, fitsOk, hxl] at *
                          simp only [Go.V.dsl, reduceCtorEq] at *
                          omega
                      · refine cSeq (cSeq (cReg (tQ rfl (qEq rfl rfl) (tQ rfl (qAssign rfl) (tEnd (xThen ?_))))))
                        refine cIf rfl (fun c120 => ?_) (fun c120 => ?_)
                        · refine cSkip (xThen ?_)
                          refine cIf rfl (fun c120 => ?_) (fun c120 => ?_)
                          · refine cSeq (cReg (tQ rfl (qFieldAddr Tryd.runUnderlying44 rfl Tryd.sizeOf3 rfl rfl rfl) (tQ rfl (qLd1M 0 Tryd.isAgg3 rfl rfl rfl) (tQ rfl (qEq rfl rfl) (tQ rfl (qMove rfl) ?_)))))
                            refine tCase 126 rfl (fun g126 => ?_) (fun g126 => ?_)
                            · refine tGo rfl rfl (tQ rfl (qFieldAddr Tryd.runUnderlying44 rfl Tryd.sizeOf3 rfl rfl rfl) (tGo rfl rfl (tQ rfl (qLd1M 0 Tryd.isAgg3 rfl rfl rfl) (tGo rfl rfl (tQ rfl (qEq rfl rfl) (tQ rfl (qPickT rfl rfl) (tQ rfl (qAssign rfl) (tEnd (xThen (cRet (xRetBlock (xRetThen ?_))))))))))))
                              refine xRet1 _ Tryd.results51 rfl fun w' s' => ⟨congrArg Value.bool ?_, s'.toExt (Sub.refl _)⟩
                              rw [Bool.eq_iff_iff]
                              simp only [instOk, fitsOk, hxl] at *
                              simp only [Go.V.dsl, reduceCtorEq] at *
                              omega
                            · refine tNo rfl rfl rfl rfl (tNo rfl rfl rfl rfl (tNo rfl rfl rfl rfl (tQ rfl (qPickF rfl rfl) (tQ rfl (qAssign rfl) (tEnd (xThen (cRet (xRetBlock (xRetThen ?_)))))))))
                              refine xRet1 _ Tryd.results51 rfl fun w' s' => ⟨congrArg Value.bool ?_, s'.toExt (Sub.refl _)⟩
                              rw [Bool.eq_iff_iff]
                              simp only [instOk, fitsOk, hxl] at *
                              simp only [Go.V.dsl, reduceCtorEq] at *
                              omega
                          · refine cSkip (xBlock (xThen (cSeq (cReg (tQ rfl (qAssign rfl) (tEnd (xThen (cRet ?_))))))))
                            refine xRet1 _ Tryd.results51 rfl fun w' s' => ⟨congrArg Value.bool ?_, s'.toExt (Sub.refl _)⟩
                            rw [Bool.eq_iff_iff]
                            simp only [instOk, fitsOk, hxl] at *
                            simp only [Go.V.dsl, reduceCtorEq] at *
                            omega
                        · refine cReg (tQ rfl (qEq rfl rfl) (tQ rfl (qAssign rfl) (tEnd (xThen ?_))))
                          refine cIf rfl (fun c120 => ?_) (fun c120 => ?_)
                          · refine cSeq (cReg (tQ rfl (qFieldAddr Tryd.runUnderlying44 rfl Tryd.sizeOf3 rfl rfl rfl) (tQ rfl (qLd1M 0 Tryd.isAgg3 rfl rfl rfl) (tQ rfl (qEq rfl rfl) (tQ rfl (qMove rfl) ?_)))))
                            refine tCase 126 rfl (fun g126 => ?_) (fun g126 => ?_)
                            · refine tGo rfl rfl (tQ rfl (qFieldAddr Tryd.runUnderlying44 rfl Tryd.sizeOf3 rfl rfl rfl) (tGo rfl rfl (tQ rfl (qLd1M 0 Tryd.isAgg3 rfl rfl rfl) (tGo rfl rfl (tQ rfl (qEq rfl rfl) (tQ rfl (qPickT rfl rfl) (tQ rfl (qAssign rfl) (tEnd (xThen (cRet (xRetBlock (xRetThen ?_))))))))))))
                              refine xRet1 _ Tryd.results51 rfl fun w' s' => ⟨congrArg Value.bool ?_, s'.toExt (Sub.refl _)⟩
                              rw [Bool.eq_iff_iff]
                              simp only [instOk, fitsOk, hxl] at *
                              simp only [Go.V.dsl, reduceCtorEq] at *
                              omega
                            · refine tNo rfl rfl rfl rfl (tNo rfl rfl rfl rfl (tNo rfl rfl rfl rfl (tQ rfl (qPickF rfl rfl) (tQ rfl (qAssign rfl) (tEnd (xThen (cRet (xRetBlock (xRetThen ?_)))))))))
                              refine xRet1 _ Tryd.results51 rfl fun w' s' => ⟨congrArg Value.bool ?_, s'.toExt (Sub.refl _)⟩
                              rw [Bool.eq_iff_iff]
                              simp only [instOk, fitsOk, hxl] at *
                              simp only [Go.V.dsl, reduceCtorEq] at *
                              omega
                          · refine cSkip (xBlock (xThen (cSeq (cReg (tQ rfl (qAssign rfl) (tEnd (xThen (cRet ?_))))))))
                            refine xRet1 _ Tryd.results51 rfl fun w' s' => ⟨congrArg Value.bool ?_, s'.toExt (Sub.refl _)⟩
                            rw [Bool.eq_iff_iff]
                            simp only [instOk, fitsOk, hxl] at *
                            simp only [Go.V.dsl, reduceCtorEq] at *
                            omega
                  · refine cReg (tQ rfl (qEq rfl rfl) (tQ rfl (qAssign rfl) (tEnd (xThen ?_))))
                    refine cIf rfl (fun c95 => ?_) (fun c95 => ?_)
                    · refine cSeq (cReg (tQ rfl (qFieldAddr Tryd.runUnderlying44 rfl Tryd.sizeOf3 rfl rfl rfl) (tQ rfl (qLd1M 0 Tryd.isAgg3 rfl rfl rfl) (tQ rfl (qMove rfl) (tQ rfl (qSub rfl rfl (w64 (by omega) (by omega))) (tCallQ rfl Tryd.call107 (first := []) (captured := []) rfl rfl (fun w' s' => within_) (tQ rfl (qMove rfl) ?_)))))))
                      refine tCase 103 rfl (fun g103 => ?_) (fun g103 => ?_)
                      · refine tGo rfl rfl (tQ rfl (qFieldAddr Tryd.runUnderlying44 rfl Tryd.sizeOf3 rfl rfl rfl) (tGo rfl rfl (tQ rfl (qLd1M 0 Tryd.isAgg3 rfl rfl rfl) (tGo rfl rfl (tCallQ rfl Tryd.call107 (first := []) (captured := []) rfl rfl (fun w' s' => within_) (tQ rfl (qPickT rfl rfl) (tQ rfl (qAssign rfl) (tEnd (xThen (cRet (xRetBlock (xRetThen ?_))))))))))))
                        refine xRet1 _ Tryd.results51 rfl fun w' s' => ⟨congrArg Value.bool ?_, s'.toExt (Sub.refl _)⟩
                        rw [Bool.eq_iff_iff]
                        simp only [instOk, fitsOk, hxl] at *
                        simp only [Go.V.dsl, reduceCtorEq] at *
                        omega
                      · refine tNo rfl rfl rfl rfl (tNo rfl rfl rfl rfl (tNo rfl rfl rfl rfl (tQ rfl (qPickF rfl rfl) (tQ rfl (qAssign rfl) (tEnd (xThen (cRet (xRetBlock (xRetThen ?_)))))))))
                        refine xRet1 _ Tryd.results51 rfl fun w' s' => ⟨congrArg Value.bool ?_, s'.toExt (Sub.refl _)⟩
                        rw [Bool.eq_iff_iff]
                        simp only [instOk, fitsOk, hxl] at *
                        simp only [Go.V.dsl, reduceCtorEq] at *
                        omega
                    · refine cSeq (cReg (tQ rfl (qEq rfl rfl) (tQ rfl (qAssign rfl) (tEnd (xThen ?_)))))
                      refine cIf rfl (fun c108 => ?_) (fun c108 => ?_)
                      · refine cSeq (cReg (tQ rfl (qFieldAddr Tryd.runUnderlying44 rfl Tryd.sizeOf3 rfl rfl rfl) (tQ rfl (qLd1M 0 Tryd.isAgg3 rfl rfl rfl) (tQ rfl (qMove rfl) (tQ rfl (qSub rfl rfl (w64 (by omega) (by omega))) (tCallQ rfl Tryd.call107 (first := []) (captured := []) rfl rfl (fun w' s' => within_) (tQ rfl (qMove rfl) ?_)))))))
                        refine tCase 115 rfl (fun g115 => ?_) (fun g115 => ?_)
                        · refine tGo rfl rfl (tQ rfl (qFieldAddr Tryd.runUnderlying44 rfl Tryd.sizeOf3 rfl rfl rfl) (tGo rfl rfl (tQ rfl (qLd1M 0 Tryd.isAgg3 rfl rfl rfl) (tGo rfl rfl (tQ rfl (qEq rfl rfl) (tQ rfl (qPickT rfl rfl) (tQ rfl (qAssign rfl) (tEnd (xThen (cRet (xRetBlock (xRetThen ?_))))))))))))
                          refine xRet1 _ Tryd.results51 rfl fun w' s' => ⟨congrArg Value.bool ?_, s'.toExt (Sub.refl _)⟩
                          rw [Bool.eq_iff_iff]
                          simp only [instOk, fitsOk, hxl] at *
                          simp only [Go.V.dsl, reduceCtorEq] at *
                          omega
                        · refine tNo rfl rfl rfl rfl (tNo rfl rfl rfl rfl (tNo rfl rfl rfl rfl (tQ rfl (qPickF rfl rfl) (tQ rfl (qAssign rfl) (tEnd (xThen (cRet (xRetBlock (xRetThen ?_)))))))))
                          refine xRet1 _ Tryd.results51 rfl fun w' s' => ⟨congrArg Value.bool ?_, s'.toExt (Sub.refl _)⟩
                          rw [Bool.eq_iff_iff]
                          simp only [instOk, fitsOk, hxl] at *
                          simp only [Go.V.dsl, reduceCtorEq] at *
                          omega
                      · refine cSeq (cSeq (cReg (tQ rfl (qEq rfl rfl) (tQ rfl (qAssign rfl) (tEnd (xThen ?_))))))
                        refine cIf rfl (fun c120 => ?_) (fun c120 => ?_)
                        · refine cSkip (xThen ?_)
                          refine cIf rfl (fun c120 => ?_) (fun c120 => ?_)
                          · refine cSeq (cReg (tQ rfl (qFieldAddr Tryd.runUnderlying44 rfl Tryd.sizeOf3 rfl rfl rfl) (tQ rfl (qLd1M 0 Tryd.isAgg3 rfl rfl rfl) (tQ rfl (qEq rfl rfl) (tQ rfl (qMove rfl) ?_)))))
                            refine tCase 126 rfl (fun g126 => ?_) (fun g126 => ?_)
                            · refine tGo rfl rfl (tQ rfl (qFieldAddr Tryd.runUnderlying44 rfl Tryd.sizeOf3 rfl rfl rfl) (tGo rfl rfl (tQ rfl (qLd1M 0 Tryd.isAgg3 rfl rfl rfl) (tGo rfl rfl (tQ rfl (qEq rfl rfl) (tQ rfl (qPickT rfl rfl) (tQ rfl (qAssign rfl) (tEnd (xThen (cRet (xRetBlock (xRetThen ?_))))))))))))
                              refine xRet1 _ Tryd.results51 rfl fun w' s' => ⟨congrArg Value.bool ?_, s'.toExt (Sub.refl _)⟩
                              rw [Bool.eq_iff_iff]
                              simp only [instOk, fitsOk, hxl] at *
                              simp only [Go.V.dsl, reduceCtorEq] at *
                              omega
                            · refine tNo rfl rfl rfl rfl (tNo rfl rfl rfl rfl (tNo rfl rfl rfl rfl (tQ rfl (qPickF rfl rfl) (tQ rfl (qAssign rfl) (tEnd (xThen (cRet (xRetBlock (xRetThen ?_)))))))))
                              refine xRet1 _ Tryd.results51 rfl fun w' s' => ⟨congrArg Value.bool ?_, s'.toExt (Sub.refl _)⟩
                              rw [Bool.eq_iff_iff]
                              simp only [instOk, fitsOk, hxl] at *
                              simp only [Go.V.dsl, reduceCtorEq] at *
                              omega
                          · refine cSkip (xBlock (xThen (cSeq (cReg (tQ rfl (qAssign rfl) (tEnd (xThen (cRet ?_))))))))
                            refine xRet1 _ Tryd.results51 rfl fun w' s' => ⟨congrArg Value.bool ?_, s'.toExt (Sub.refl _)⟩
                            rw [Bool.eq_iff_iff]
                            simp only [instOk, fitsOk, hxl] at *
                            simp only [Go.V.dsl, reduceCtorEq] at *
                            omega
                        · refine cReg (tQ rfl (qEq rfl rfl) (tQ rfl (qAssign rfl) (tEnd (xThen ?_))))
                          refine cIf rfl (fun c120 => ?_) (fun c120 => ?_)
                          · refine cSeq (cReg (tQ rfl (qFieldAddr Tryd.runUnderlying44 rfl Tryd.sizeOf3 rfl rfl rfl) (tQ rfl (qLd1M 0 Tryd.isAgg3 rfl rfl rfl) (tQ rfl (qEq rfl rfl) (tQ rfl (qMove rfl) ?_)))))
                            refine tCase 126 rfl (fun g126 => ?_) (fun g126 => ?_)
                            · refine tGo rfl rfl (tQ rfl (qFieldAddr Tryd.runUnderlying44 rfl Tryd.sizeOf3 rfl rfl rfl) (tGo rfl rfl (tQ rfl (qLd1M 0 Tryd.isAgg3 rfl rfl rfl) (tGo rfl rfl (tQ rfl (qEq rfl rfl) (tQ rfl (qPickT rfl rfl) (tQ rfl (qAssign rfl) (tEnd (xThen (cRet (xRetBlock (xRetThen ?_))))))))))))
                              refine xRet1 _ Tryd.results51 rfl fun w' s' => ⟨congrArg Value.bool ?_, s'.toExt (Sub.refl _)⟩
                              rw [Bool.eq_iff_iff]
                              simp only [instOk, fitsOk, hxl] at *
                              simp only [Go.V.dsl, reduceCtorEq] at *
                              omega
                            · refine tNo rfl rfl rfl rfl (tNo rfl rfl rfl rfl (tNo rfl rfl rfl rfl (tQ rfl (qPickF rfl rfl) (tQ rfl (qAssign rfl) (tEnd (xThen (cRet (xRetBlock (xRetThen ?_)))))))))
                              refine xRet1 _ Tryd.results51 rfl fun w' s' => ⟨congrArg Value.bool ?_, s'.toExt (Sub.refl _)⟩
                              rw [Bool.eq_iff_iff]
                              simp only [instOk, fitsOk, hxl] at *
                              simp only [Go.V.dsl, reduceCtorEq] at *
                              omega
                          · refine cSkip (xBlock (xThen (cSeq (cReg (tQ rfl (qAssign rfl) (tEnd (xThen (cRet ?_))))))))
                            refine xRet1 _ Tryd.results51 rfl fun w' s' => ⟨congrArg Value.bool ?_, s'.toExt (Sub.refl _)⟩
                            rw [Bool.eq_iff_iff]
                            simp only [instOk, fitsOk, hxl] at *
                            simp only [Go.V.dsl, reduceCtorEq] at *
                            omega
      · refine tNo rfl rfl rfl rfl (tNo rfl rfl rfl rfl (tNo rfl rfl rfl rfl (tQ rfl (qPickF rfl rfl) (tEnd (xThen (cIfF rfl (cSkip (xThen (cSeq (cSeq (cReg (tQ rfl (qFieldAddr Tryd.runUnderlying44 rfl Tryd.sizeOf3 rfl rfl rfl) (tQ rfl (qLd1M 0 Tryd.isAgg3 rfl rfl rfl) (tEnd (xThen (cBlock (cSeq (cReg (tQ rfl (qEq rfl rfl) (tQ rfl (qAssign rfl) ?_))))))))))))))))))))
        refine tEnd (xThen ?_)
        refine cIf rfl (fun c30 => ?_) (fun c30 => ?_)
        · refine cSeq (cReg (tQ rfl (qFieldAddr Tryd.runUnderlying44 rfl Tryd.sizeOf3 rfl rfl rfl) (tQ rfl (qLd1M 0 Tryd.isAgg3 rfl rfl rfl) (tQ rfl (qMove rfl) (tQ rfl (qSub rfl rfl (w64 (by omega) (by omega))) (tCallQ rfl Tryd.call107 (first := []) (captured := []) rfl rfl (fun w' s' => within_) (tQ rfl (qMove rfl) ?_)))))))
          refine tCase 37 rfl (fun g37 => ?_) (fun g37 => ?_)
          · refine tGo rfl rfl (tQ rfl (qFieldAddr Tryd.runUnderlying44 rfl Tryd.sizeOf3 rfl rfl rfl) (tGo rfl rfl (tQ rfl (qLd1M 0 Tryd.isAgg3 rfl rfl rfl) (tGo rfl rfl (tQ rfl (qEq rfl rfl) (tQ rfl (qPickT rfl rfl) (tQ rfl (qMove rfl) ?_)))))))
            refine tCase 42 rfl (fun g42 => ?_) (fun g42 => ?_)
            · refine tGo rfl rfl (tQ rfl (qFieldAddr Tryd.runUnderlying44 rfl Tryd.sizeOf42 rfl rfl rfl) (tGo rfl rfl (tQ rfl (qLd1M 0 Tryd.isAgg42 rfl rfl rfl) (tGo rfl rfl (tQ rfl (qMove rfl) (tGo rfl rfl (tCallQ rfl Tryd.call108 (first := []) (captured := []) rfl rfl (fun w' s' => fits12 s'.sub hx hm) (tQ rfl (qPickT rfl rfl) (tQ rfl (qAssign rfl) (tEnd (xThen (cRet (xRetBlock (xRetThen ?_))))))))))))))
              refine xRet1 _ Tryd.results51 rfl fun w' s' => ⟨congrArg Value.bool ?_, s'.toExt (Sub.refl _)⟩
              rw [Bool.eq_iff_iff]
              simp only [instOk, fitsOk, hxl] at *
              simp only [Go.V.dsl, reduceCtorEq] at *
              omega
            · refine tNo rfl rfl rfl rfl (tNo rfl rfl rfl rfl (tNo rfl rfl rfl rfl (tNo rfl rfl rfl rfl (tQ rfl (qPickF rfl rfl) (tQ rfl (qAssign rfl) (tEnd (xThen (cRet (xRetBlock (xRetThen ?_))))))))))
              refine xRet1 _ Tryd.results51 rfl fun w' s' => ⟨congrArg Value.bool ?_, s'.toExt (Sub.refl _)⟩
              rw [Bool.eq_iff_iff]
              simp only [instOk, fitsOk, hxl] at *
              simp only [Go.V.dsl, reduceCtorEq] at *
              omega
          · refine tNo rfl rfl rfl rfl (tNo rfl rfl rfl rfl (tNo rfl rfl rfl rfl (tQ rfl (qPickF rfl rfl) (tQ rfl (qMove rfl) (tNo rfl rfl rfl rfl (tNo rfl rfl rfl rfl (tNo rfl rfl rfl rfl (tNo rfl rfl rfl rfl (tQ rfl (qPickF rfl rfl) (tQ rfl (qAssign rfl) (tEnd (xThen (cRet (xRetBlock (xRetThen ?_)))))))))))))))
            refine xRet1 _ Tryd.results51 rfl fun w' s' => ⟨congrArg Value.bool ?_, s'.toExt (Sub.refl _)⟩
            rw [Bool.eq_iff_iff]
            simp only [instOk, fitsOk, hxl] at *
            simp only [Go.V.dsl, reduceCtorEq] at *
            omega
        · refine cSeq (cReg (tQ rfl (qEq rfl rfl) (tQ rfl (qAssign rfl) (tEnd (xThen ?_)))))
          refine cIf rfl (fun c48 => ?_) (fun c48 => ?_)
          · refine cSeq (cReg (tQ rfl (qFieldAddr Tryd.runUnderlying44 rfl Tryd.sizeOf3 rfl rfl rfl) (tQ rfl (qLd1M 0 Tryd.isAgg3 rfl rfl rfl) (tQ rfl (qMove rfl) (tQ rfl (qSub rfl rfl (w64 (by omega) (by omega))) (tCallQ rfl Tryd.call107 (first := []) (captured := []) rfl rfl (fun w' s' => within_) (tQ rfl (qMove rfl) ?_)))))))
            refine tCase 55 rfl (fun g55 => ?_) (fun g55 => ?_)
            · refine tGo rfl rfl (tQ rfl (qFieldAddr Tryd.runUnderlying44 rfl Tryd.sizeOf3 rfl rfl rfl) (tGo rfl rfl (tQ rfl (qLd1M 0 Tryd.isAgg3 rfl rfl rfl) (tGo rfl rfl (tQ rfl (qMove rfl) (tGo rfl rfl (tQ rfl (qSub rfl rfl (w64 (by omega) (by omega))) (tGo rfl rfl (tCallQ rfl Tryd.call107 (first := []) (captured := []) rfl rfl (fun w' s' => within_) (tQ rfl (qPickT rfl rfl) (tQ rfl (qMove rfl) ?_)))))))))))
              refine tCase 62 rfl (fun g62 => ?_) (fun g62 => ?_)
              · refine tGo rfl rfl (tQ rfl (qFieldAddr Tryd.runUnderlying44 rfl Tryd.sizeOf3 rfl rfl rfl) (tGo rfl rfl (tQ rfl (qLd1M 0 Tryd.isAgg3 rfl rfl rfl) (tGo rfl rfl (tQ rfl (qEq rfl rfl) (tQ rfl (qPickT rfl rfl) (tQ rfl (qAssign rfl) (tEnd (xThen (cRet (xRetBlock (xRetThen ?_))))))))))))
                refine xRet1 _ Tryd.results51 rfl fun w' s' => ⟨congrArg Value.bool ?_, s'.toExt (Sub.refl _)⟩
                rw [Bool.eq_iff_iff]
                simp only [instOk, fitsOk, hxl] at *
                simp only [Go.V.dsl, reduceCtorEq] at *
                omega
              · refine tNo rfl rfl rfl rfl (tNo rfl rfl rfl rfl (tNo rfl rfl rfl rfl (tQ rfl (qPickF rfl rfl) (tQ rfl (qAssign rfl) (tEnd (xThen (cRet (xRetBlock (xRetThen ?_)))))))))
                refine xRet1 _ Tryd.results51 rfl fun w' s' => ⟨congrArg Value.bool ?_, s'.toExt (Sub.refl _)⟩
                rw [Bool.eq_iff_iff]
                simp only [instOk, fitsOk, hxl] at *
                simp only [Go.V.dsl, reduceCtorEq] at *
                omega
            · refine tNo rfl rfl rfl rfl (tNo rfl rfl rfl rfl (tNo rfl rfl rfl rfl (tNo rfl rfl rfl rfl (tNo rfl rfl rfl rfl (tQ rfl (qPickF rfl rfl) (tQ rfl (qMove rfl) (tNo rfl rfl rfl rfl (tNo rfl rfl rfl rfl (tNo rfl rfl rfl rfl (tQ rfl (qPickF rfl rfl) (tQ rfl (qAssign rfl) ?_)))))))))))
              refine tEnd (xThen (cRet (xRetBlock (xRetThen ?_))))
              refine xRet1 _ Tryd.results51 rfl fun w' s' => ⟨congrArg Value.bool ?_, s'.toExt (Sub.refl _)⟩
              rw [Bool.eq_iff_iff]
              simp only [instOk, fitsOk, hxl] at *
              simp only [Go.V.dsl, reduceCtorEq] at *
              omega
          · refine cSeq (cReg (tQ rfl (qEq rfl rfl) (tQ rfl (qAssign rfl) (tEnd (xThen ?_)))))
            refine cIf rfl (fun c67 => ?_) (fun c67 => ?_)
            · refine cSeq (cReg (tQ rfl (qFieldAddr Tryd.runUnderlying44 rfl Tryd.sizeOf3 rfl rfl rfl) (tQ rfl (qLd1M 0 Tryd.isAgg3 rfl rfl rfl) (tQ rfl (qMove rfl) (tQ rfl (qSub rfl rfl (w64 (by omega) (by omega))) (tCallQ rfl Tryd.call107 (first := []) (captured := []) rfl rfl (fun w' s' => within_) (tQ rfl (qMove rfl) ?_)))))))
              refine tCase 74 rfl (fun g74 => ?_) (fun g74 => ?_)
              · refine tGo rfl rfl (tQ rfl (qFieldAddr Tryd.runUnderlying44 rfl Tryd.sizeOf3 rfl rfl rfl) (tGo rfl rfl (tQ rfl (qLd1M 0 Tryd.isAgg3 rfl rfl rfl) (tGo rfl rfl (tQ rfl (qMove rfl) (tGo rfl rfl (tQ rfl (qMul rfl rfl (w64 (by omega) (by omega))) (tGo rfl rfl (tQ rfl (qAdd rfl rfl (w64 (by omega) (by omega))) (tGo rfl rfl (tCallQ rfl Tryd.call107 (first := []) (captured := []) rfl rfl (fun w' s' => within_) ?_)))))))))))
                refine tQ rfl (qPickT rfl rfl) (tQ rfl (qAssign rfl) (tEnd (xThen (cRet (xRetBlock (xRetThen ?_))))))
                refine xRet1 _ Tryd.results51 rfl fun w' s' => ⟨congrArg Value.bool ?_, s'.toExt (Sub.refl _)⟩
                rw [Bool.eq_iff_iff]
                simp only [instOk, fitsOk, hxl] at *
                simp only [Go.V.dsl, reduceCtorEq] at *
                omega
              · refine tNo rfl rfl rfl rfl (tNo rfl rfl rfl rfl (tNo rfl rfl rfl rfl (tNo rfl rfl rfl rfl (tNo rfl rfl rfl rfl (tNo rfl rfl rfl rfl (tQ rfl (qPickF rfl rfl) (tQ rfl (qAssign rfl) (tEnd (xThen (cRet (xRetBlock (xRetThen ?_))))))))))))
                refine xRet1 _ Tryd.results51 rfl fun w' s' => ⟨congrArg Value.bool ?_, s'.toExt (Sub.refl _)⟩
                rw [Bool.eq_iff_iff]
                simp only [instOk, fitsOk, hxl] at *
                simp only [Go.V.dsl, reduceCtorEq] at *
                omega
            · refine cSeq (cReg (tQ rfl (qEq rfl rfl) (tQ rfl (qAssign rfl) (tEnd (xThen ?_)))))
              refine cIf rfl (fun c82 => ?_) (fun c82 => ?_)
              · refine cSeq (cReg (tQ rfl (qFieldAddr Tryd.runUnderlying44 rfl Tryd.sizeOf3 rfl rfl rfl) (tQ rfl (qLd1M 0 Tryd.isAgg3 rfl rfl rfl) (tQ rfl (qMove rfl) (tQ rfl (qSub rfl rfl (w64 (by omega) (by omega))) (tCallQ rfl Tryd.call107 (first := []) (captured := []) rfl rfl (fun w' s' => within_) (tQ rfl (qMove rfl) ?_)))))))
                refine tCase 89 rfl (fun g89 => ?_) (fun g89 => ?_)
                · refine tGo rfl rfl (tQ rfl (qFieldAddr Tryd.runUnderlying44 rfl Tryd.sizeOf3 rfl rfl rfl) (tGo rfl rfl (tQ rfl (qLd1M 0 Tryd.isAgg3 rfl rfl rfl) (tGo rfl rfl (tQ rfl (qMove rfl) (tGo rfl rfl (tCallQ rfl Tryd.call107 (first := []) (captured := []) rfl rfl (fun w' s' => within_) (tQ rfl (qPickT rfl rfl) (tQ rfl (qAssign rfl) (tEnd (xThen (cRet (xRetBlock (xRetThen ?_))))))))))))))
                  refine xRet1 _ Tryd.results51 rfl fun w' s' => ⟨congrArg Value.bool ?_, s'.toExt (Sub.refl _)⟩
                  rw [Bool.eq_iff_iff]
                  simp only [instOk, fitsOk, hxl] at *
                  simp only [Go.V.dsl, reduceCtorEq] at *
                  omega
                · refine tNo rfl rfl rfl rfl (tNo rfl rfl rfl rfl (tNo rfl rfl rfl rfl (tNo rfl rfl rfl rfl (tQ rfl (qPickF rfl rfl) (tQ rfl (qAssign rfl) (tEnd (xThen (cRet (xRetBlock (xRetThen ?_))))))))))
                  refine xRet1 _ Tryd.results51 rfl fun w' s' => ⟨congrArg Value.bool ?_, s'.toExt (Sub.refl _)⟩
                  rw [Bool.eq_iff_iff]
                  simp only [instOk, fitsOk, hxl] at *
                  simp only [Go.V.dsl, reduceCtorEq] at *
                  omega
              · refine cSeq (cSeq (cReg (tQ rfl (qEq rfl rfl) (tQ rfl (qAssign rfl) (tEnd (xThen ?_))))))
                refine cIf rfl (fun c95 => ?_) (fun c95 => ?_)
                · refine cSkip (xThen ?_)
                  refine cIf rfl (fun c95 => ?_) (fun c95 => ?_)
                  · refine cSeq (cReg (tQ rfl (qFieldAddr Tryd.runUnderlying44 rfl Tryd.sizeOf3 rfl rfl rfl) (tQ rfl (qLd1M 0 Tryd.isAgg3 rfl rfl rfl) (tQ rfl (qMove rfl) (tQ rfl (qSub rfl rfl (w64 (by omega) (by omega))) (tCallQ rfl Tryd.call107 (first := []) (captured := []) rfl rfl (fun w' s' => within_) (tQ rfl (qMove rfl) ?_)))))))
                    refine tCase 103 rfl (fun g103 => ?_) (fun g103 => ?_)
                    · refine tGo rfl rfl (tQ rfl (qFieldAddr Tryd.runUnderlying44 rfl Tryd.sizeOf3 rfl rfl rfl) (tGo rfl rfl (tQ rfl (qLd1M 0 Tryd.isAgg3 rfl rfl rfl) (tGo rfl rfl (tCallQ rfl Tryd.call107 (first := []) (captured := []) rfl rfl (fun w' s' => within_) (tQ rfl (qPickT rfl rfl) (tQ rfl (qAssign rfl) (tEnd (xThen (cRet (xRetBlock (xRetThen ?_))))))))))))
                      refine xRet1 _ Tryd.results51 rfl fun w' s' => ⟨congrArg Value.bool ?_, s'.toExt (Sub.refl _)⟩
                      rw [Bool.eq_iff_iff]
                      simp only [instOk, fitsOk, hxl] at *
                      simp only [Go.V.dsl, reduceCtorEq] at *
                      omega
                    · refine tNo rfl rfl rfl rfl (tNo rfl rfl rfl rfl (tNo rfl rfl rfl rfl (tQ rfl (qPickF rfl rfl) (tQ rfl (qAssign rfl) (tEnd (xThen (cRet (xRetBlock (xRetThen ?_)))))))))
                      refine xRet1 _ Tryd.results51 rfl fun w' s' => ⟨congrArg Value.bool ?_, s'.toExt (Sub.refl _)⟩
                      rw [Bool.eq_iff_iff]
                      simp only [instOk, fitsOk, hxl] at *
                      simp only [Go.V.dsl, reduceCtorEq] at *
                      omega
                  · refine cSeq (cReg (tQ rfl (qEq rfl rfl) (tQ rfl (qAssign rfl) (tEnd (xThen ?_)))))
                    refine cIf rfl (fun c108 => ?_) (fun c108 => ?_)
                    · refine cSeq (cReg (tQ rfl (qFieldAddr Tryd.runUnderlying44 rfl Tryd.sizeOf3 rfl rfl rfl) (tQ rfl (qLd1M 0 Tryd.isAgg3 rfl rfl rfl) (tQ rfl (qMove rfl) (tQ rfl (qSub rfl rfl (w64 (by omega) (by omega))) (tCallQ rfl Tryd.call107 (first := []) (captured := []) rfl rfl (fun w' s' => within_) (tQ rfl (qMove rfl) ?_)))))))
                      refine tCase 115 rfl (fun g115 => ?_) (fun g115 => ?_)
                      · refine tGo rfl rfl (tQ rfl (qFieldAddr Tryd.runUnderlying44 rfl Tryd.sizeOf3 rfl rfl rfl) (tGo rfl rfl (tQ rfl (qLd1M 0 Tryd.isAgg3 rfl rfl rfl) (tGo rfl rfl (tQ rfl (qEq rfl rfl) (tQ rfl (qPickT rfl rfl) (tQ rfl (qAssign rfl) (tEnd (xThen (cRet (xRetBlock (xRetThen ?_))))))))))))
                        refine xRet1 _ Tryd.results51 rfl fun w' s' => ⟨congrArg Value.bool ?_, s'.toExt (Sub.refl _)⟩
                        rw [Bool.eq_iff_iff]
                        simp only [instOk, fitsOk, hxl] at *
                        simp only [Go.V.dsl, reduceCtorEq] at *
                        omega
                      · refine tNo rfl rfl rfl rfl (tNo rfl rfl rfl rfl (tNo rfl rfl rfl rfl (tQ rfl (qPickF rfl rfl) (tQ rfl (qAssign rfl) (tEnd (xThen (cRet (xRetBlock (xRetThen ?_)))))))))
                        refine xRet1 _ Tryd.results51 rfl fun w' s' => ⟨congrArg Value.bool ?_, s'.toExt (Sub.refl _)⟩
                        rw [Bool.eq_iff_iff]
                        simp only [instOk, fitsOk, hxl] at *
                        simp only [Go.V.dsl, reduceCtorEq] at *
                        omega
                    · refine cSeq (cSeq (cReg (tQ rfl (qEq rfl rfl) (tQ rfl (qAssign rfl) (tEnd (xThen ?_))))))
                      refine cIf rfl (fun c120 => ?_) (fun c120 => ?_)
                      · refine cSkip (xThen ?_)
                        refine cIf rfl (fun c120 => ?_) (fun c120 => ?_)
                        · refine cSeq (cReg (tQ rfl (qFieldAddr Tryd.runUnderlying44 rfl Tryd.sizeOf3 rfl rfl rfl) (tQ rfl (qLd1M 0 Tryd.isAgg3 rfl rfl rfl) (tQ rfl (qEq rfl rfl) (tQ rfl (qMove rfl) ?_)))))
                          refine tCase 126 rfl (fun g126 => ?_) (fun g126 => ?_)
                          · refine tGo rfl rfl (tQ rfl (qFieldAddr Tryd.runUnderlying44 rfl Tryd.sizeOf3 rfl rfl rfl) (tGo rfl rfl (tQ rfl (qLd1M 0 Tryd.isAgg3 rfl rfl rfl) (tGo rfl rfl (tQ rfl (qEq rfl rfl) (tQ rfl (qPickT rfl rfl) (tQ rfl (qAssign rfl) (tEnd (xThen (cRet (xRetBlock (xRetThen ?_))))))))))))
                            refine xRet1 _ Tryd.results51 rfl fun w' s' => ⟨congrArg Value.bool ?_, s'.toExt (Sub.refl _)⟩
                            rw [Bool.eq_iff_iff]
                            simp only [instOk, fitsOk, hxl] at *
                            simp only [Go.V.dsl, reduceCtorEq] at *
                            omega
                          · refine tNo rfl rfl rfl rfl (tNo rfl rfl rfl rfl (tNo rfl rfl rfl rfl (tQ rfl (qPickF rfl rfl) (tQ rfl (qAssign rfl) (tEnd (xThen (cRet (xRetBlock (xRetThen ?_)))))))))
                            refine xRet1 _ Tryd.results51 rfl fun w' s' => ⟨congrArg Value.bool ?_, s'.toExt (Sub.refl _)⟩
                            rw [Bool.eq_iff_iff]
                            simp only [instOk, fitsOk, hxl] at *
                            simp only [Go.V.dsl, reduceCtorEq] at *
                            omega
                        · refine cSkip (xBlock (xThen (cSeq (cReg (tQ rfl (qAssign rfl) (tEnd (xThen (cRet ?_))))))))
                          refine xRet1 _ Tryd.results51 rfl fun w' s' => ⟨congrArg Value.bool ?_, s'.toExt (Sub.refl _)⟩
                          rw [Bool.eq_iff_iff]
                          simp only [instOk, fitsOk, hxl] at *
                          simp only [Go.V.dsl, reduceCtorEq] at *
                          omega
                      · refine cReg (tQ rfl (qEq rfl rfl) (tQ rfl (qAssign rfl) (tEnd (xThen ?_))))
                        refine cIf rfl (fun c120 => ?_) (fun c120 => ?_)
                        · refine cSeq (cReg (tQ rfl (qFieldAddr Tryd.runUnderlying44 rfl Tryd.sizeOf3 rfl rfl rfl) (tQ rfl (qLd1M 0 Tryd.isAgg3 rfl rfl rfl) (tQ rfl (qEq rfl rfl) (tQ rfl (qMove rfl) ?_)))))
                          refine tCase 126 rfl (fun g126 => ?_) (fun g126 => ?_)
                          · refine tGo rfl rfl (tQ rfl (qFieldAddr Tryd.runUnderlying44 rfl Tryd.sizeOf3 rfl rfl rfl) (tGo rfl rfl (tQ rfl (qLd1M 0 Tryd.isAgg3 rfl rfl rfl) (tGo rfl rfl (tQ rfl (qEq rfl rfl) (tQ rfl (qPickT rfl rfl) (tQ rfl (qAssign rfl) (tEnd (xThen (cRet (xRetBlock (xRetThen ?_))))))))))))
                            refine xRet1 _ Tryd.results51 rfl fun w' s' => ⟨congrArg Value.bool ?_, s'.toExt (Sub.refl _)⟩
                            rw [Bool.eq_iff_iff]
                            simp only [instOk, fitsOk, hxl] at *
                            simp only [Go.V.dsl, reduceCtorEq] at *
                            omega
                          · refine tNo rfl rfl rfl rfl (tNo rfl rfl rfl rfl (tNo rfl rfl rfl rfl (tQ rfl (qPickF rfl rfl) (tQ rfl (qAssign rfl) (tEnd (xThen (cRet (xRetBlock (xRetThen ?_)))))))))
                            refine xRet1 _ Tryd.results51 rfl fun w' s' => ⟨congrArg Value.bool ?_, s'.toExt (Sub.refl _)⟩
                            rw [Bool.eq_iff_iff]
                            simp only [instOk, fitsOk, hxl] at *
                            simp only [Go.V.dsl, reduceCtorEq] at *
                            omega
                        · refine cSkip (xBlock (xThen (cSeq (cReg (tQ rfl (qAssign rfl) (tEnd (xThen (cRet ?_))))))))
                          refine xRet1 _ Tryd.results51 rfl fun w' s' => ⟨congrArg Value.bool ?_, s'.toExt (Sub.refl _)⟩
                          rw [Bool.eq_iff_iff]
                          simp only [instOk, fitsOk, hxl] at *
                          simp only [Go.V.dsl, reduceCtorEq] at *
                          omega
                · refine cReg (tQ rfl (qEq rfl rfl) (tQ rfl (qAssign rfl) (tEnd (xThen ?_))))
                  refine cIf rfl (fun c95 => ?_) (fun c95 => ?_)
                  · refine cSeq (cReg (tQ rfl (qFieldAddr Tryd.runUnderlying44 rfl Tryd.sizeOf3 rfl rfl rfl) (tQ rfl (qLd1M 0 Tryd.isAgg3 rfl rfl rfl) (tQ rfl (qMove rfl) (tQ rfl (qSub rfl rfl (w64 (by omega) (by omega))) (tCallQ rfl Tryd.call107 (first := []) (captured := []) rfl rfl (fun w' s' => within_) (tQ rfl (qMove rfl) ?_)))))))
                    refine tCase 103 rfl (fun g103 => ?_) (fun g103 => ?_)
                    · refine tGo rfl rfl (tQ rfl (qFieldAddr Tryd.runUnderlying44 rfl Tryd.sizeOf3 rfl rfl rfl) (tGo rfl rfl (tQ rfl (qLd1M 0 Tryd.isAgg3 rfl rfl rfl) (tGo rfl rfl (tCallQ rfl Tryd.call107 (first := []) (captured := []) rfl rfl (fun w' s' => within_) (tQ rfl (qPickT rfl rfl) (tQ rfl (qAssign rfl) (tEnd (xThen (cRet (xRetBlock (xRetThen ?_))))))))))))
                      refine xRet1 _ Tryd.results51 rfl fun w' s' => ⟨congrArg Value.bool ?_, s'.toExt (Sub.refl _)⟩
                      rw [Bool.eq_iff_iff]
                      simp only [instOk, fitsOk, hxl] at *
                      simp only [Go.V.dsl, reduceCtorEq] at *
                      omega
                    · refine tNo rfl rfl rfl rfl (tNo rfl rfl rfl rfl (tNo rfl rfl rfl rfl (tQ rfl (qPickF rfl rfl) (tQ rfl (qAssign rfl) (tEnd (xThen (cRet (xRetBlock (xRetThen ?_)))))))))
                      refine xRet1 _ Tryd.results51 rfl fun w' s' => ⟨congrArg Value.bool ?_, s'.toExt (Sub.refl _)⟩
                      rw [Bool.eq_iff_iff]
                      simp only [instOk, fitsOk, hxl] at *
                      simp only [Go.V.dsl, reduceCtorEq] at *
                      omega
                  · refine cSeq (cReg (tQ rfl (qEq rfl rfl) (tQ rfl (qAssign rfl) (tEnd (xThen ?_)))))
                    refine cIf rfl (fun c108 => ?_) (fun c108 => ?_)
                    · refine cSeq (cReg (tQ rfl (qFieldAddr Tryd.runUnderlying44 rfl Tryd.sizeOf3 rfl rfl rfl) (tQ rfl (qLd1M 0 Tryd.isAgg3 rfl rfl rfl) (tQ rfl (qMove rfl) (tQ rfl (qSub rfl rfl (w64 (by omega) (by omega))) (tCallQ rfl Tryd.call107 (first := []) (captured := []) rfl rfl (fun w' s' => within_) (tQ rfl (qMove rfl) ?_)))))))
                      refine tCase 115 rfl (fun g115 => ?_) (fun g115 => ?_)
                      · refine tGo rfl rfl (tQ rfl (qFieldAddr Tryd.runUnderlying44 rfl Tryd.sizeOf3 rfl rfl rfl) (tGo rfl rfl (tQ rfl (qLd1M 0 Tryd.isAgg3 rfl rfl rfl) (tGo rfl rfl (tQ rfl (qEq rfl rfl) (tQ rfl (qPickT rfl rfl) (tQ rfl (qAssign rfl) (tEnd (xThen (cRet (xRetBlock (xRetThen ?_))))))))))))
                        refine xRet1 _ Tryd.results51 rfl fun w' s' => ⟨congrArg Value.bool ?_, s'.toExt (Sub.refl _)⟩
                        rw [Bool.eq_iff_iff]
                        simp only [instOk, fitsOk, hxl] at *
                        simp only [Go.V.dsl, reduceCtorEq] at *
                        omega
                      · refine tNo rfl rfl rfl rfl (tNo rfl rfl rfl rfl (tNo rfl rfl rfl rfl (tQ rfl (qPickF rfl rfl) (tQ rfl (qAssign rfl) (tEnd (xThen (cRet (xRetBlock (xRetThen ?_)))))))))
                        refine xRet1 _ Tryd.results51 rfl fun w' s' => ⟨congrArg Value.bool ?_, s'.toExt (Sub.refl _)⟩
                        rw [Bool.eq_iff_iff]
                        simp only [instOk, fitsOk, hxl] at *
                        simp only [Go.V.dsl, reduceCtorEq] at *
                        omega
                    · refine cSeq (cSeq (cReg (tQ rfl (qEq rfl rfl) (tQ rfl (qAssign rfl) (tEnd (xThen ?_))))))
                      refine cIf rfl (fun c120 => ?_) (fun c120 => ?_)
                      · refine cSkip (xThen ?_)
                        refine cIf rfl (fun c120 => ?_) (fun c120 => ?_)
                        · refine cSeq (cReg (tQ rfl (qFieldAddr Tryd.runUnderlying44 rfl Tryd.sizeOf3 rfl rfl rfl) (tQ rfl (qLd1M 0 Tryd.isAgg3 rfl rfl rfl) (tQ rfl (qEq rfl rfl) (tQ rfl (qMove rfl) ?_)))))
                          refine tCase 126 rfl (fun g126 => ?_) (fun g126 => ?_)
                          · refine tGo rfl rfl (tQ rfl (qFieldAddr Tryd.runUnderlying44 rfl Tryd.sizeOf3 rfl rfl rfl) (tGo rfl rfl (tQ rfl (qLd1M 0 Tryd.isAgg3 rfl rfl rfl) (tGo rfl rfl (tQ rfl (qEq rfl rfl) (tQ rfl (qPickT rfl rfl) (tQ rfl (qAssign rfl) (tEnd (xThen (cRet (xRetBlock (xRetThen ?_))))))))))))
                            refine xRet1 _ Tryd.results51 rfl fun w' s' => ⟨congrArg Value.bool ?_, s'.toExt (Sub.refl _)⟩
                            rw [Bool.eq_iff_iff]
                            simp only [instOk, fitsOk, hxl] at *
                            simp only [Go.V.dsl, reduceCtorEq] at *
                            omega
                          · refine tNo rfl rfl rfl rfl (tNo rfl rfl rfl rfl (tNo rfl rfl rfl rfl (tQ rfl (qPickF rfl rfl) (tQ rfl (qAssign rfl) (tEnd (xThen (cRet (xRetBlock (xRetThen ?_)))))))))
                            refine xRet1 _ Tryd.results51 rfl fun w' s' => ⟨congrArg Value.bool ?_, s'.toExt (Sub.refl _)⟩
                            rw [Bool.eq_iff_iff]
                            simp only [instOk, fitsOk, hxl] at *
                            simp only [Go.V.dsl, reduceCtorEq] at *
                            omega
                        · refine cSkip (xBlock (xThen (cSeq (cReg (tQ rfl (qAssign rfl) (tEnd (xThen (cRet ?_))))))))
                          refine xRet1 _ Tryd.results51 rfl fun w' s' => ⟨congrArg Value.bool ?_, s'.toExt (Sub.refl _)⟩
                          rw [Bool.eq_iff_iff]
                          simp only [instOk, fitsOk, hxl] at *
                          simp only [Go.V.dsl, reduceCtorEq] at *
                          omega
                      · refine cReg (tQ rfl (qEq rfl rfl) (tQ rfl (qAssign rfl) (tEnd (xThen ?_))))
                        refine cIf rfl (fun c120 => ?_) (fun c120 => ?_)
                        · refine cSeq (cReg (tQ rfl (qFieldAddr Tryd.runUnderlying44 rfl Tryd.sizeOf3 rfl rfl rfl) (tQ rfl (qLd1M 0 Tryd.isAgg3 rfl rfl rfl) (tQ rfl (qEq rfl rfl) (tQ rfl (qMove rfl) ?_)))))
                          refine tCase 126 rfl (fun g126 => ?_) (fun g126 => ?_)
                          · refine tGo rfl rfl (tQ rfl (qFieldAddr Tryd.runUnderlying44 rfl Tryd.sizeOf3 rfl rfl rfl) (tGo rfl rfl (tQ rfl (qLd1M 0 Tryd.isAgg3 rfl rfl rfl) (tGo rfl rfl (tQ rfl (qEq rfl rfl) (tQ rfl (qPickT rfl rfl) (tQ rfl (qAssign rfl) (tEnd (xThen (cRet (xRetBlock (xRetThen ?_))))))))))))
                            refine xRet1 _ Tryd.results51 rfl fun w' s' => ⟨congrArg Value.bool ?_, s'.toExt (Sub.refl _)⟩
                            rw [Bool.eq_iff_iff]
                            simp only [instOk, fitsOk, hxl] at *
                            simp only [Go.V.dsl, reduceCtorEq] at *
                            omega
                          · refine tNo rfl rfl rfl rfl (tNo rfl rfl rfl rfl (tNo rfl rfl rfl rfl (tQ rfl (qPickF rfl rfl) (tQ rfl (qAssign rfl) (tEnd (xThen (cRet (xRetBlock (xRetThen ?_)))))))))
                            refine xRet1 _ Tryd.results51 rfl fun w' s' => ⟨congrArg Value.bool ?_, s'.toExt (Sub.refl _)⟩
                            rw [Bool.eq_iff_iff]
                            simp only [instOk, fitsOk, hxl] at *
                            simp only [Go.V.dsl, reduceCtorEq] at *
                            omega
                        · refine cSkip (xBlock (xThen (cSeq (cReg (tQ rfl (qAssign rfl) (tEnd (xThen (cRet ?_))))))))
                          refine xRet1 _ Tryd.results51 rfl fun w' s' => ⟨congrArg Value.bool ?_, s'.toExt (Sub.refl _)⟩
                          rw [Bool.eq_iff_iff]
                          simp only [instOk, fitsOk, hxl] at *
                          simp only [Go.V.dsl, reduceCtorEq] at *
                          omega
  · refine tNo rfl rfl rfl rfl (tNo rfl rfl rfl rfl (tNo rfl rfl rfl rfl (tNo rfl rfl rfl rfl (tQ rfl (qPickF rfl rfl) (tEnd (xThen (cIfF rfl (cSkip (xThen (cSeq (cSeq (cReg (tQ rfl (qFieldAddr Tryd.runUnderlying44 rfl Tryd.sizeOf3 rfl rfl rfl) (tQ rfl (qLd1M 0 Tryd.isAgg3 rfl rfl rfl) (tQ rfl (qNe rfl rfl) (tQ rfl (qMove rfl) ?_))))))))))))))))
    refine tCase 23 rfl (fun g23 => ?_) (fun g23 => ?_)
    · refine tGo rfl rfl (tQ rfl (qFieldAddr Tryd.runUnderlying44 rfl Tryd.sizeOf3 rfl rfl rfl) (tGo rfl rfl (tQ rfl (qLd1M 0 Tryd.isAgg3 rfl rfl rfl) (tGo rfl rfl (tQ rfl (qNe rfl rfl) (tQ rfl (qPickT rfl rfl) (tEnd (xThen ?_))))))))
      refine cIf rfl (fun c27 => ?_) (fun c27 => ?_)
      · refine cSeq (cReg (tQ rfl (qAssign rfl) (tEnd (xThen (cRet (xRetThen ?_))))))
        refine xRet1 _ Tryd.results51 rfl fun w' s' => ⟨congrArg Value.bool ?_, s'.toExt (Sub.refl _)⟩
        rw [Bool.eq_iff_iff]
        simp only [instOk, fitsOk, hxl] at *
        simp only [Go.V.dsl, reduceCtorEq] at *
        omega
      · refine cSkip (xThen (cSeq (cSeq (cReg (tQ rfl (qFieldAddr Tryd.runUnderlying44 rfl Tryd.sizeOf3 rfl rfl rfl) (tQ rfl (qLd1M 0 Tryd.isAgg3 rfl rfl rfl) (tEnd (xThen (cBlock (cSeq (cReg (tQ rfl (qEq rfl rfl) (tQ rfl (qAssign rfl) (tEnd (xThen ?_)))))))))))))))
        refine cIf rfl (fun c30 => ?_) (fun c30 => ?_)
        · refine cSeq (cReg (tQ rfl (qFieldAddr Tryd.runUnderlying44 rfl Tryd.sizeOf3 rfl rfl rfl) (tQ rfl (qLd1M 0 Tryd.isAgg3 rfl rfl rfl) (tQ rfl (qMove rfl) (tQ rfl (qSub rfl rfl (w64 (by omega) (by omega))) (tCallQ rfl Tryd.call107 (first := []) (captured := []) rfl rfl (fun w' s' => within_) (tQ rfl (qMove rfl) ?_)))))))
          refine tCase 37 rfl (fun g37 => ?_) (fun g37 => ?_)
          · refine tGo rfl rfl (tQ rfl (qFieldAddr Tryd.runUnderlying44 rfl Tryd.sizeOf3 rfl rfl rfl) (tGo rfl rfl (tQ rfl (qLd1M 0 Tryd.isAgg3 rfl rfl rfl) (tGo rfl rfl (tQ rfl (qEq rfl rfl) (tQ rfl (qPickT rfl rfl) (tQ rfl (qMove rfl) ?_)))))))
            refine tCase 42 rfl (fun g42 => ?_) (fun g42 => ?_)
            · refine tGo rfl rfl (tQ rfl (qFieldAddr Tryd.runUnderlying44 rfl Tryd.sizeOf42 rfl rfl rfl) (tGo rfl rfl (tQ rfl (qLd1M 0 Tryd.isAgg42 rfl rfl rfl) (tGo rfl rfl (tQ rfl (qMove rfl) (tGo rfl rfl (tCallQ rfl Tryd.call108 (first := []) (captured := []) rfl rfl (fun w' s' => fits12 s'.sub hx hm) (tQ rfl (qPickT rfl rfl) (tQ rfl (qAssign rfl) (tEnd (xThen (cRet (xRetBlock (xRetThen ?_))))))))))))))
              refine xRet1 _ Tryd.results51 rfl fun w' s' => ⟨congrArg Value.bool ?_, s'.toExt (Sub.refl _)⟩
              rw [Bool.eq_iff_iff]
              simp only [instOk, fitsOk, hxl] at *
              simp only [Go.V.dsl, reduceCtorEq] at *
              omega
            · refine tNo rfl rfl rfl rfl (tNo rfl rfl rfl rfl (tNo rfl rfl rfl rfl (tNo rfl rfl rfl rfl (tQ rfl (qPickF rfl rfl) (tQ rfl (qAssign rfl) (tEnd (xThen (cRet (xRetBlock (xRetThen ?_))))))))))
              refine xRet1 _ Tryd.results51 rfl fun w' s' => ⟨congrArg Value.bool ?_, s'.toExt (Sub.refl _)⟩
              rw [Bool.eq_iff_iff]
              simp only [instOk, fitsOk, hxl] at *
              simp only [Go.V.dsl, reduceCtorEq] at *
              omega
          · refine tNo rfl rfl rfl rfl (tNo rfl rfl rfl rfl (tNo rfl rfl rfl rfl (tQ rfl (qPickF rfl rfl) (tQ rfl (qMove rfl) (tNo rfl rfl rfl rfl (tNo rfl rfl rfl rfl (tNo rfl rfl rfl rfl (tNo rfl rfl rfl rfl (tQ rfl (qPickF rfl rfl) (tQ rfl (qAssign rfl) (tEnd (xThen (cRet (xRetBlock (xRetThen ?_)))))))))))))))
            refine xRet1 _ Tryd.results51 rfl fun w' s' => ⟨congrArg Value.bool ?_, s'.toExt (Sub.refl _)⟩
            rw [Bool.eq_iff_iff]
            simp only [instOk, fitsOk, hxl] at *
            simp only [Go.V.dsl, reduceCtorEq] at *
            omega
        · refine cSeq (cReg (tQ rfl (qEq rfl rfl) (tQ rfl (qAssign rfl) (tEnd (xThen ?_)))))
          refine cIf rfl (fun c48 => ?_) (fun c48 => ?_)
          · refine cSeq (cReg (tQ rfl (qFieldAddr Tryd.runUnderlying44 rfl Tryd.sizeOf3 rfl rfl rfl) (tQ rfl (qLd1M 0 Tryd.isAgg3 rfl rfl rfl) (tQ rfl (qMove rfl) (tQ rfl (qSub rfl rfl (w64 (by omega) (by omega))) (tCallQ rfl Tryd.call107 (first := []) (captured := []) rfl rfl (fun w' s' => within_) (tQ rfl (qMove rfl) ?_)))))))
            refine tCase 55 rfl (fun g55 => ?_) (fun g55 => ?_)
            · refine tGo rfl rfl (tQ rfl (qFieldAddr Tryd.runUnderlying44 rfl Tryd.sizeOf3 rfl rfl rfl) (tGo rfl rfl (tQ rfl (qLd1M 0 Tryd.isAgg3 rfl rfl rfl) (tGo rfl rfl (tQ rfl (qMove rfl) (tGo rfl rfl (tQ rfl (qSub rfl rfl (w64 (by omega) (by omega))) (tGo rfl rfl (tCallQ rfl Tryd.call107 (first := []) (captured := []) rfl rfl (fun w' s' => within_) (tQ rfl (qPickT rfl rfl) (tQ rfl (qMove rfl) ?_)))))))))))
              refine tCase 62 rfl (fun g62 => ?_) (fun g62 => ?_)
              · refine tGo rfl rfl (tQ rfl (qFieldAddr Tryd.runUnderlying44 rfl Tryd.sizeOf3 rfl rfl rfl) (tGo rfl rfl (tQ rfl (qLd1M 0 Tryd.isAgg3 rfl rfl rfl) (tGo rfl rfl (tQ rfl (qEq rfl rfl) (tQ rfl (qPickT rfl rfl) (tQ rfl (qAssign rfl) (tEnd (xThen (cRet (xRetBlock (xRetThen ?_))))))))))))
                refine xRet1 _ Tryd.results51 rfl fun w' s' => ⟨congrArg Value.bool ?_, s'.toExt (Sub.refl _)⟩
                rw [Bool.eq_iff_iff]
                simp only [instOk, fitsOk, hxl] at *
                simp only [Go.V.dsl, reduceCtorEq] at *
                omega
              · refine tNo rfl rfl rfl rfl (tNo rfl rfl rfl rfl (tNo rfl rfl rfl rfl (tQ rfl (qPickF rfl rfl) (tQ rfl (qAssign rfl) (tEnd (xThen (cRet (xRetBlock (xRetThen ?_)))))))))
                refine xRet1 _ Tryd.results51 rfl fun w' s' => ⟨congrArg Value.bool ?_, s'.toExt (Sub.refl _)⟩
                rw [Bool.eq_iff_iff]
                simp only [instOk, fitsOk, hxl] at *
                simp only [Go.V.dsl, reduceCtorEq] at *
                omega
            · refine tNo rfl rfl rfl rfl (tNo rfl rfl rfl rfl (tNo rfl rfl rfl rfl (tNo rfl rfl rfl rfl (tNo rfl rfl rfl rfl (tQ rfl (qPickF rfl rfl) (tQ rfl (qMove rfl) (tNo rfl rfl rfl rfl (tNo rfl rfl rfl rfl (tNo rfl rfl rfl rfl (tQ rfl (qPickF rfl rfl) (tQ rfl (qAssign rfl) ?_)))))))))))
              refine tEnd (xThen (cRet (xRetBlock (xRetThen ?_))))
              refine xRet1 _ Tryd.results51 rfl fun w' s' => ⟨congrArg Value.bool ?_, s'.toExt (Sub.refl _)⟩
              rw [Bool.eq_iff_iff]
              simp only [instOk, fitsOk, hxl] at *
              simp only [Go.V.dsl, reduceCtorEq] at *
              omega
          · refine cSeq (cReg (tQ rfl (qEq rfl rfl) (tQ rfl (qAssign rfl) (tEnd (xThen ?_)))))
            refine cIf rfl (fun c67 => ?_) (fun c67 => ?_)
            · refine cSeq (cReg (tQ rfl (qFieldAddr Tryd.runUnderlying44 rfl Tryd.sizeOf3 rfl rfl rfl) (tQ rfl (qLd1M 0 Tryd.isAgg3 rfl rfl rfl) (tQ rfl (qMove rfl) (tQ rfl (qSub rfl rfl (w64 (by omega) (by omega))) (tCallQ rfl Tryd.call107 (first := []) (captured := []) rfl rfl (fun w' s' => within_) (tQ rfl (qMove rfl) ?_)))))))
              refine tCase 74 rfl (fun g74 => ?_) (fun g74 => ?_)
              · refine tGo rfl rfl (tQ rfl (qFieldAddr Tryd.runUnderlying44 rfl Tryd.sizeOf3 rfl rfl rfl) (tGo rfl rfl (tQ rfl (qLd1M 0 Tryd.isAgg3 rfl rfl rfl) (tGo rfl rfl (tQ rfl (qMove rfl) (tGo rfl rfl (tQ rfl (qMul rfl rfl (w64 (by omega) (by omega))) (tGo rfl rfl (tQ rfl (qAdd rfl rfl (w64 (by omega) (by omega))) (tGo rfl rfl (tCallQ rfl Tryd.call107 (first := []) (captured := []) rfl rfl (fun w' s' => within_) ?_)))))))))))
                refine tQ rfl (qPickT rfl rfl) (tQ rfl (qAssign rfl) (tEnd (xThen (cRet (xRetBlock (xRetThen ?_))))))
                refine xRet1 _ Tryd.results51 rfl fun w' s' => ⟨congrArg Value.bool ?_, s'.toExt (Sub.refl _)⟩
                rw [Bool.eq_iff_iff]
                simp only [instOk, fitsOk, hxl] at *
                simp only [Go.V.dsl, reduceCtorEq] at *
                omega
              · refine tNo rfl rfl rfl rfl (tNo rfl rfl rfl rfl (tNo rfl rfl rfl rfl (tNo rfl rfl rfl rfl (tNo rfl rfl rfl rfl (tNo rfl rfl rfl rfl (tQ rfl (qPickF rfl rfl) (tQ rfl (qAssign rfl) (tEnd (xThen (cRet (xRetBlock (xRetThen ?_))))))))))))
                refine xRet1 _ Tryd.results51 rfl fun w' s' => ⟨congrArg Value.bool ?_, s'.toExt (Sub.refl _)⟩
                rw [Bool.eq_iff_iff]
                simp only [instOk, fitsOk, hxl] at *
                simp only [Go.V.dsl, reduceCtorEq] at *
                omega
            · refine cSeq (cReg (tQ rfl (qEq rfl rfl) (tQ rfl (qAssign rfl) (tEnd (xThen ?_)))))
              refine cIf rfl (fun c82 => ?_) (fun c82 => ?_)
              · refine cSeq (cReg (tQ rfl (qFieldAddr Tryd.runUnderlying44 rfl Tryd.sizeOf3 rfl rfl rfl) (tQ rfl (qLd1M 0 Tryd.isAgg3 rfl rfl rfl) (tQ rfl (qMove rfl) (tQ rfl (qSub rfl rfl (w64 (by omega) (by omega))) (tCallQ rfl Tryd.call107 (first := []) (captured := []) rfl rfl (fun w' s' => within_) (tQ rfl (qMove rfl) ?_)))))))
                refine tCase 89 rfl (fun g89 => ?_) (fun g89 => ?_)
                · refine tGo rfl rfl (tQ rfl (qFieldAddr Tryd.runUnderlying44 rfl Tryd.sizeOf3 rfl rfl rfl) (tGo rfl rfl (tQ rfl (qLd1M 0 Tryd.isAgg3 rfl rfl rfl) (tGo rfl rfl (tQ rfl (qMove rfl) (tGo rfl rfl (tCallQ rfl Tryd.call107 (first := []) (captured := []) rfl rfl (fun w' s' => within_) (tQ rfl (qPickT rfl rfl) (tQ rfl (qAssign rfl) (tEnd (xThen (cRet (xRetBlock (xRetThen ?_))))))))))))))
                  refine xRet1 _ Tryd.results51 rfl fun w' s' => ⟨congrArg Value.bool ?_, s'.toExt (Sub.refl _)⟩
                  rw [Bool.eq_iff_iff]
                  simp only [instOk, fitsOk, hxl] at *
                  simp only [Go.V.dsl, reduceCtorEq] at *
                  omega
                · refine tNo rfl rfl rfl rfl (tNo rfl rfl rfl rfl (tNo rfl rfl rfl rfl (tNo rfl rfl rfl rfl (tQ rfl (qPickF rfl rfl) (tQ rfl (qAssign rfl) (tEnd (xThen (cRet (xRetBlock (xRetThen ?_))))))))))
                  refine xRet1 _ Tryd.results51 rfl fun w' s' => ⟨congrArg Value.bool ?_, s'.toExt (Sub.refl _)⟩
                  rw [Bool.eq_iff_iff]
                  simp only [instOk, fitsOk, hxl] at *
                  simp only [Go.V.dsl, reduceCtorEq] at *
                  omega
              · refine cSeq (cSeq (cReg (tQ rfl (qEq rfl rfl) (tQ rfl (qAssign rfl) (tEnd (xThen ?_))))))
                refine cIf rfl (fun c95 => ?_) (fun c95 => ?_)
                · refine cSkip (xThen ?_)
                  refine cIf rfl (fun c95 => ?_) (fun c95 => ?_)
                  · refine cSeq (cReg (tQ rfl (qFieldAddr Tryd.runUnderlying44 rfl Tryd.sizeOf3 rfl rfl rfl) (tQ rfl (qLd1M 0 Tryd.isAgg3 rfl rfl rfl) (tQ rfl (qMove rfl) (tQ rfl (qSub rfl rfl (w64 (by omega) (by omega))) (tCallQ rfl Tryd.call107 (first := []) (captured := []) rfl rfl (fun w' s' => within_) (tQ rfl (qMove rfl) ?_)))))))
                    refine tCase 103 rfl (fun g103 => ?_) (fun g103 => ?_)
                    · refine tGo rfl rfl (tQ rfl (qFieldAddr Tryd.runUnderlying44 rfl Tryd.sizeOf3 rfl rfl rfl) (tGo rfl rfl (tQ rfl (qLd1M 0 Tryd.isAgg3 rfl rfl rfl) (tGo rfl rfl (tCallQ rfl Tryd.call107 (first := []) (captured := []) rfl rfl (fun w' s' => within_) (tQ rfl (qPickT rfl rfl) (tQ rfl (qAssign rfl) (tEnd (xThen (cRet (xRetBlock (xRetThen ?_))))))))))))
                      refine xRet1 _ Tryd.results51 rfl fun w' s' => ⟨congrArg Value.bool ?_, s'.toExt (Sub.refl _)⟩
                      rw [Bool.eq_iff_iff]
                      simp only [instOk, fitsOk, hxl] at *
                      simp only [Go.V.dsl, reduceCtorEq] at *
                      omega
                    · refine tNo rfl rfl rfl rfl (tNo rfl rfl rfl rfl (tNo rfl rfl rfl rfl (tQ rfl (qPickF rfl rfl) (tQ rfl (qAssign rfl) (tEnd (xThen (cRet (xRetBlock (xRetThen ?_)))))))))
                      refine xRet1 _ Tryd.results51 rfl fun w' s' => ⟨congrArg Value.bool ?_, s'.toExt (Sub.refl _)⟩
                      rw [Bool.eq_iff_iff]
                      simp only [instOk, fitsOk, hxl] at *
                      simp only [Go.V.dsl, reduceCtorEq] at *
                      omega
                  · refine cSeq (cReg (tQ rfl (qEq rfl rfl) (tQ rfl (qAssign rfl) (tEnd (xThen ?_)))))
                    refine cIf rfl (fun c108 => ?_) (fun c108 => ?_)
                    · refine cSeq (cReg (tQ rfl (qFieldAddr Tryd.runUnderlying44 rfl Tryd.sizeOf3 rfl rfl rfl) (tQ rfl (qLd1M 0 Tryd.isAgg3 rfl rfl rfl) (tQ rfl (qMove rfl) (tQ rfl (qSub rfl rfl (w64 (by omega) (by omega))) (tCallQ rfl Tryd.call107 (first := []) (captured := []) rfl rfl (fun w' s' => within_) (tQ rfl (qMove rfl) ?_)))))))
                      refine tCase 115 rfl (fun g115 => ?_) (fun g115 => ?_)
                      · refine tGo rfl rfl (tQ rfl (qFieldAddr Tryd.runUnderlying44 rfl Tryd.sizeOf3 rfl rfl rfl) (tGo rfl rfl (tQ rfl (qLd1M 0 Tryd.isAgg3 rfl rfl rfl) (tGo rfl rfl (tQ rfl (qEq rfl rfl) (tQ rfl (qPickT rfl rfl) (tQ rfl (qAssign rfl) (tEnd (xThen (cRet (xRetBlock (xRetThen ?_))))))))))))
                        refine xRet1 _ Tryd.results51 rfl fun w' s' => ⟨congrArg Value.bool ?_, s'.toExt (Sub.refl _)⟩
                        rw [Bool.eq_iff_iff]
                        simp only [instOk, fitsOk, hxl] at *
                        simp only [Go.V.dsl, reduceCtorEq] at *
                        omega
                      · refine tNo rfl rfl rfl rfl (tNo rfl rfl rfl rfl (tNo rfl rfl rfl rfl (tQ rfl (qPickF rfl rfl) (tQ rfl (qAssign rfl) (tEnd (xThen (cRet (xRetBlock (xRetThen ?_)))))))))
                        refine xRet1 _ Tryd.results51 rfl fun w' s' => ⟨congrArg Value.bool ?_, s'.toExt (Sub.refl _)⟩
                        rw [Bool.eq_iff_iff]
                        simp only [instOk, fitsOk, hxl] at *
                        simp only [Go.V.dsl, reduceCtorEq] at *
                        omega
                    · refine cSeq (cSeq (cReg (tQ rfl (qEq rfl rfl) (tQ rfl (qAssign rfl) (tEnd (xThen ?_))))))
                      refine cIf rfl (fun c120 => ?_) (fun c120 => ?_)
                      · refine cSkip (xThen ?_)
                        refine cIf rfl (fun c120 => ?_) (fun c120 => ?_)
                        · refine cSeq (cReg (tQ rfl (qFieldAddr Tryd.runUnderlying44 rfl Tryd.sizeOf3 rfl rfl rfl) (tQ rfl (qLd1M 0 Tryd.isAgg3 rfl rfl rfl) (tQ rfl (qEq rfl rfl) (tQ rfl (qMove rfl) ?_)))))
                          refine tCase 126 rfl (fun g126 => ?_) (fun g126 => ?_)
                          · refine tGo rfl rfl (tQ rfl (qFieldAddr Tryd.runUnderlying44 rfl Tryd.sizeOf3 rfl rfl rfl) (tGo rfl rfl (tQ rfl (qLd1M 0 Tryd.isAgg3 rfl rfl rfl) (tGo rfl rfl (tQ rfl (qEq rfl rfl) (tQ rfl (qPickT rfl rfl) (tQ rfl (qAssign rfl) (tEnd (xThen (cRet (xRetBlock (xRetThen ?_))))))))))))
                            refine xRet1 _ Tryd.results51 rfl fun w' s' => ⟨congrArg Value.bool ?_, s'.toExt (Sub.refl _)⟩
                            rw [Bool.eq_iff_iff]
                            simp only [instOk, fitsOk, hxl] at *
                            simp only [Go.V.dsl, reduceCtorEq] at *
                            omega
                          · refine tNo rfl rfl rfl rfl (tNo rfl rfl rfl rfl (tNo rfl rfl rfl rfl (tQ rfl (qPickF rfl rfl) (tQ rfl (qAssign rfl) (tEnd (xThen (cRet (xRetBlock (xRetThen ?_)))))))))
                            refine xRet1 _ Tryd.results51 rfl fun w' s' => ⟨congrArg Value.bool ?_, s'.toExt (Sub.refl _)⟩
                            rw [Bool.eq_iff_iff]
                            simp only [instOk, fitsOk, hxl] at *
                            simp only [Go.V.dsl, reduceCtorEq] at *
                            omega
                        · refine cSkip (xBlock (xThen (cSeq (cReg (tQ rfl (qAssign rfl) (tEnd (xThen (cRet ?_))))))))
                          refine xRet1 _ Tryd.results51 rfl fun w' s' => ⟨congrArg Value.bool ?_, s'.toExt (Sub.refl _)⟩
                          rw [Bool.eq_iff_iff]
                          simp only [instOk, fitsOk, hxl] at *
                          simp only [Go.V.dsl, reduceCtorEq] at *
                          omega
                      · refine cReg (tQ rfl (qEq rfl rfl) (tQ rfl (qAssign rfl) (tEnd (xThen ?_))))
                        refine cIf rfl (fun c120 => ?_) (fun c120 => ?_)
                        · refine cSeq (cReg (tQ rfl (qFieldAddr Tryd.runUnderlying44 rfl Tryd.sizeOf3 rfl rfl rfl) (tQ rfl (qLd1M 0 Tryd.isAgg3 rfl rfl rfl) (tQ rfl (qEq rfl rfl) (tQ rfl (qMove rfl) ?_)))))
                          refine tCase 126 rfl (fun g126 => ?_) (fun g126 => ?_)
                          · refine tGo rfl rfl (tQ rfl (qFieldAddr Tryd.runUnderlying44 rfl Tryd.sizeOf3 rfl rfl rfl) (tGo rfl rfl (tQ rfl (qLd1M 0 Tryd.isAgg3 rfl rfl rfl) (tGo rfl rfl (tQ rfl (qEq rfl rfl) (tQ rfl (qPickT rfl rfl) (tQ rfl (qAssign rfl) (tEnd (xThen (cRet (xRetBlock (xRetThen ?_))))))))))))
                            refine xRet1 _ Tryd.results51 rfl fun w' s' => ⟨congrArg Value.bool ?_, s'.toExt (Sub.refl _)⟩
                            rw [Bool.eq_iff_iff]
                            simp only [instOk, fitsOk, hxl] at *
                            simp only [Go.V.dsl, reduceCtorEq] at *
                            omega
                          · refine tNo rfl rfl rfl rfl (tNo rfl rfl rfl rfl (tNo rfl rfl rfl rfl (tQ rfl (qPickF rfl rfl) (tQ rfl (qAssign rfl) (tEnd (xThen (cRet (xRetBlock (xRetThen ?_)))))))))
                            refine xRet1 _ Tryd.results51 rfl fun w' s' => ⟨congrArg Value.bool ?_, s'.toExt (Sub.refl _)⟩
                            rw [Bool.eq_iff_iff]
                            simp only [instOk, fitsOk, hxl] at *
                            simp only [Go.V.dsl, reduceCtorEq] at *
                            omega
                        · refine cSkip (xBlock (xThen (cSeq (cReg (tQ rfl (qAssign rfl) (tEnd (xThen (cRet ?_))))))))
                          refine xRet1 _ Tryd.results51 rfl fun w' s' => ⟨congrArg Value.bool ?_, s'.toExt (Sub.refl _)⟩
                          rw [Bool.eq_iff_iff]
                          simp only [instOk, fitsOk, hxl] at *
                          simp only [Go.V.dsl, reduceCtorEq] at *
                          omega
                · refine cReg (tQ rfl (qEq rfl rfl) (tQ rfl (qAssign rfl) (tEnd (xThen ?_))))
                  refine cIf rfl (fun c95 => ?_) (fun c95 => ?_)
                  · refine cSeq (cReg (tQ rfl (qFieldAddr Tryd.runUnderlying44 rfl Tryd.sizeOf3 rfl rfl rfl) (tQ rfl (qLd1M 0 Tryd.isAgg3 rfl rfl rfl) (tQ rfl (qMove rfl) (tQ rfl (qSub rfl rfl (w64 (by omega) (by omega))) (tCallQ rfl Tryd.call107 (first := []) (captured := []) rfl rfl (fun w' s' => within_) (tQ rfl (qMove rfl) ?_)))))))
                    refine tCase 103 rfl (fun g103 => ?_) (fun g103 => ?_)
                    · refine tGo rfl rfl (tQ rfl (qFieldAddr Tryd.runUnderlying44 rfl Tryd.sizeOf3 rfl rfl rfl) (tGo rfl rfl (tQ rfl (qLd1M 0 Tryd.isAgg3 rfl rfl rfl) (tGo rfl rfl (tCallQ rfl Tryd.call107 (first := []) (captured := []) rfl rfl (fun w' s' => within_) (tQ rfl (qPickT rfl rfl) (tQ rfl (qAssign rfl) (tEnd (xThen (cRet (xRetBlock (xRetThen ?_))))))))))))
                      refine xRet1 _ Tryd.results51 rfl fun w' s' => ⟨congrArg Value.bool ?_, s'.toExt (Sub.refl _)⟩
                      rw [Bool.eq_iff_iff]
                      simp only [instOk, fitsOk, hxl] at *
                      simp only [Go.V.dsl, reduceCtorEq] at *
                      omega
                    · refine tNo rfl rfl rfl rfl (tNo rfl rfl rfl rfl (tNo rfl rfl rfl rfl (tQ rfl (qPickF rfl rfl) (tQ rfl (qAssign rfl) (tEnd (xThen (cRet (xRetBlock (xRetThen ?_)))))))))
                      refine xRet1 _ Tryd.results51 rfl fun w' s' => ⟨congrArg Value.bool ?_, s'.toExt (Sub.refl _)⟩
                      rw [Bool.eq_iff_iff]
                      simp only [instOk, fitsOk, hxl] at *
                      simp only [Go.V.dsl, reduceCtorEq] at *
                      omega
                  · refine cSeq (cReg (tQ rfl (qEq rfl rfl) (tQ rfl (qAssign rfl) (tEnd (xThen ?_)))))
                    refine cIf rfl (fun c108 => ?_) (fun c108 => ?_)
                    · refine cSeq (cReg (tQ rfl (qFieldAddr Tryd.runUnderlying44 rfl Tryd.sizeOf3 rfl rfl rfl) (tQ rfl (qLd1M 0 Tryd.isAgg3 rfl rfl rfl) (tQ rfl (qMove rfl) (tQ rfl (qSub rfl rfl (w64 (by omega) (by omega))) (tCallQ rfl Tryd.call107 (first := []) (captured := []) rfl rfl (fun w' s' => within_) (tQ rfl (qMove rfl) ?_)))))))
                      refine tCase 115 rfl (fun g115 => ?_) (fun g115 => ?_)
                      · refine tGo rfl rfl (tQ rfl (qFieldAddr Tryd.runUnderlying44 rfl Tryd.sizeOf3 rfl rfl rfl) (tGo rfl rfl (tQ rfl (qLd1M 0 Tryd.isAgg3 rfl rfl rfl) (tGo rfl rfl (tQ rfl (qEq rfl rfl) (tQ rfl (qPickT rfl rfl) (tQ rfl (qAssign rfl) (tEnd (xThen (cRet (xRetBlock (xRetThen ?_))))))))))))
                        refine xRet1 _ Tryd.results51 rfl fun w' s' => ⟨congrArg Value.bool ?_, s'.toExt (Sub.refl _)⟩
                        rw [Bool.eq_iff_iff]
                        simp only [instOk, fitsOk, hxl] at *
                        simp only [Go.V.dsl, reduceCtorEq] at *
                        omega
                      · refine tNo rfl rfl rfl rfl (tNo rfl rfl rfl rfl (tNo rfl rfl rfl rfl (tQ rfl (qPickF rfl rfl) (tQ rfl (qAssign rfl) (tEnd (xThen (cRet (xRetBlock (xRetThen ?_)))))))))
                        refine xRet1 _ Tryd.results51 rfl fun w' s' => ⟨congrArg Value.bool ?_, s'.toExt (Sub.refl _)⟩
                        rw [Bool.eq_iff_iff]
                        simp only [instOk, fitsOk, hxl] at *
                        simp only [Go.V.dsl, reduceCtorEq] at *
                        omega
                    · refine cSeq (cSeq (cReg (tQ rfl (qEq rfl rfl) (tQ rfl (qAssign rfl) (tEnd (xThen ?_))))))
                      refine cIf rfl (fun c120 => ?_) (fun c120 => ?_)
                      · refine cSkip (xThen ?_)
                        refine cIf rfl (fun c120 => ?_) (fun c120 => ?_)
                        · refine cSeq (cReg (tQ rfl (qFieldAddr Tryd.runUnderlying44 rfl Tryd.sizeOf3 rfl rfl rfl) (tQ rfl (qLd1M 0 Tryd.isAgg3 rfl rfl rfl) (tQ rfl (qEq rfl rfl) (tQ rfl (qMove rfl) ?_)))))
                          refine tCase 126 rfl (fun g126 => ?_) (fun g126 => ?_)
                          · refine tGo rfl rfl (tQ rfl (qFieldAddr Tryd.runUnderlying44 rfl Tryd.sizeOf3 rfl rfl rfl) (tGo rfl rfl (tQ rfl (qLd1M 0 Tryd.isAgg3 rfl rfl rfl) (tGo rfl rfl (tQ rfl (qEq rfl rfl) (tQ rfl (qPickT rfl rfl) (tQ rfl (qAssign rfl) (tEnd (xThen (cRet (xRetBlock (xRetThen ?_))))))))))))
                            refine xRet1 _ Tryd.results51 rfl fun w' s' => ⟨congrArg Value.bool ?_, s'.toExt (Sub.refl _)⟩
                            rw [Bool.eq_iff_iff]
                            simp only [instOk, fitsOk, hxl] at *
                            simp only [Go.V.dsl, reduceCtorEq] at *
                            omega
                          · refine tNo rfl rfl rfl rfl (tNo rfl rfl rfl rfl (tNo rfl rfl rfl rfl (tQ rfl (qPickF rfl rfl) (tQ rfl (qAssign rfl) (tEnd (xThen (cRet (xRetBlock (xRetThen ?_)))))))))
                            refine xRet1 _ Tryd.results51 rfl fun w' s' => ⟨congrArg Value.bool ?_, s'.toExt (Sub.refl _)⟩
                            rw [Bool.eq_iff_iff]
                            simp only [instOk, fitsOk, hxl] at *
                            simp only [Go.V.dsl, reduceCtorEq] at *
                            omega
                        · refine cSkip (xBlock (xThen (cSeq (cReg (tQ rfl (qAssign rfl) (tEnd (xThen (cRet ?_))))))))
                          refine xRet1 _ Tryd.results51 rfl fun w' s' => ⟨congrArg Value.bool ?_, s'.toExt (Sub.refl _)⟩
                          rw [Bool.eq_iff_iff]
                          simp only [instOk, fitsOk, hxl] at *
                          simp only [Go.V.dsl, reduceCtorEq] at *
                          omega
                      · refine cReg (tQ rfl (qEq rfl rfl) (tQ rfl (qAssign rfl) (tEnd (xThen ?_))))
                        refine cIf rfl (fun c120 => ?_) (fun c120 => ?_)
                        · refine cSeq (cReg (tQ rfl (qFieldAddr Tryd.runUnderlying44 rfl Tryd.sizeOf3 rfl rfl rfl) (tQ rfl (qLd1M 0 Tryd.isAgg3 rfl rfl rfl) (tQ rfl (qEq rfl rfl) (tQ rfl (qMove rfl) ?_)))))
                          refine tCase 126 rfl (fun g126 => ?_) (fun g126 => ?_)
                          · refine tGo rfl rfl (tQ rfl (qFieldAddr Tryd.runUnderlying44 rfl Tryd.sizeOf3 rfl rfl rfl) (tGo rfl rfl (tQ rfl (qLd1M 0 Tryd.isAgg3 rfl rfl rfl) (tGo rfl rfl (tQ rfl (qEq rfl rfl) (tQ rfl (qPickT rfl rfl) (tQ rfl (qAssign rfl) (tEnd (xThen (cRet (xRetBlock (xRetThen ?_))))))))))))
                            refine xRet1 _ Tryd.results51 rfl fun w' s' => ⟨congrArg Value.bool ?_, s'.toExt (Sub.refl _)⟩
                            rw [Bool.eq_iff_iff]
                            simp only [instOk, fitsOk, hxl] at *
                            simp only [Go.V.dsl, reduceCtorEq] at *
                            omega
                          · refine tNo rfl rfl rfl rfl (tNo rfl rfl rfl rfl (tNo rfl rfl rfl rfl (tQ rfl (qPickF rfl rfl) (tQ rfl (qAssign rfl) (tEnd (xThen (cRet (xRetBlock (xRetThen ?_)))))))))
                            refine xRet1 _ Tryd.results51 rfl fun w' s' => ⟨congrArg Value.bool ?_, s'.toExt (Sub.refl _)⟩
                            rw [Bool.eq_iff_iff]
                            simp only [instOk, fitsOk, hxl] at *
                            simp only [Go.V.dsl, reduceCtorEq] at *
                            omega
                        · refine cSkip (xBlock (xThen (cSeq (cReg (tQ rfl (qAssign rfl) (tEnd (xThen (cRet ?_))))))))
                          refine xRet1 _ Tryd.results51 rfl fun w' s' => ⟨congrArg Value.bool ?_, s'.toExt (Sub.refl _)⟩
                          rw [Bool.eq_iff_iff]
                          simp only [instOk, fitsOk, hxl] at *
                          simp only [Go.V.dsl, reduceCtorEq] at *
                          omega
    · refine tNo rfl rfl rfl rfl (tNo rfl rfl rfl rfl (tNo rfl rfl rfl rfl (tQ rfl (qPickF rfl rfl) (tEnd (xThen (cIfF rfl (cSkip (xThen (cSeq (cSeq (cReg (tQ rfl (qFieldAddr Tryd.runUnderlying44 rfl Tryd.sizeOf3 rfl rfl rfl) (tQ rfl (qLd1M 0 Tryd.isAgg3 rfl rfl rfl) (tEnd (xThen (cBlock (cSeq (cReg (tQ rfl (qEq rfl rfl) (tQ rfl (qAssign rfl) ?_))))))))))))))))))))
      refine tEnd (xThen ?_)
      refine cIf rfl (fun c30 => ?_) (fun c30 => ?_)
      · refine cSeq (cReg (tQ rfl (qFieldAddr Tryd.runUnderlying44 rfl Tryd.sizeOf3 rfl rfl rfl) (tQ rfl (qLd1M 0 Tryd.isAgg3 rfl rfl rfl) (tQ rfl (qMove rfl) (tQ rfl (qSub rfl rfl (w64 (by omega) (by omega))) (tCallQ rfl Tryd.call107 (first := []) (captured := []) rfl rfl (fun w' s' => within_) (tQ rfl (qMove rfl) ?_)))))))
        refine tCase 37 rfl (fun g37 => ?_) (fun g37 => ?_)
        · refine tGo rfl rfl (tQ rfl (qFieldAddr Tryd.runUnderlying44 rfl Tryd.sizeOf3 rfl rfl rfl) (tGo rfl rfl (tQ rfl (qLd1M 0 Tryd.isAgg3 rfl rfl rfl) (tGo rfl rfl (tQ rfl (qEq rfl rfl) (tQ rfl (qPickT rfl rfl) (tQ rfl (qMove rfl) ?_)))))))
          refine tCase 42 rfl (fun g42 => ?_) (fun g42 => ?_)
          · refine tGo rfl rfl (tQ rfl (qFieldAddr Tryd.runUnderlying44 rfl Tryd.sizeOf42 rfl rfl rfl) (tGo rfl rfl (tQ rfl (qLd1M 0 Tryd.isAgg42 rfl rfl rfl) (tGo rfl rfl (tQ rfl (qMove rfl) (tGo rfl rfl (tCallQ rfl Tryd.call108 (first := []) (captured := []) rfl rfl (fun w' s' => fits12 s'.sub hx hm) (tQ rfl (qPickT rfl rfl) (tQ rfl (qAssign rfl) (tEnd (xThen (cRet (xRetBlock (xRetThen ?_))))))))))))))
            refine xRet1 _ Tryd.results51 rfl fun w' s' => ⟨congrArg Value.bool ?_, s'.toExt (Sub.refl _)⟩
            rw [Bool.eq_iff_iff]
            simp only [instOk, fitsOk, hxl] at *
            simp only [Go.V.dsl, reduceCtorEq] at *
            omega
          · refine tNo rfl rfl rfl rfl (tNo rfl rfl rfl rfl (tNo rfl rfl rfl rfl (tNo rfl rfl rfl rfl (tQ rfl (qPickF rfl rfl) (tQ rfl (qAssign rfl) (tEnd (xThen (cRet (xRetBlock (xRetThen ?_))))))))))
            refine xRet1 _ Tryd.results51 rfl fun w' s' => ⟨congrArg Value.bool ?_, s'.toExt (Sub.refl _)⟩
            rw [Bool.eq_iff_iff]
            simp only [instOk, fitsOk, hxl] at *
            simp only [Go.V.dsl, reduceCtorEq] at *
            omega
        · refine tNo rfl rfl rfl rfl (tNo rfl rfl rfl rfl (tNo rfl rfl rfl rfl (tQ rfl (qPickF rfl rfl) (tQ rfl (qMove rfl) (tNo rfl rfl rfl rfl (tNo rfl rfl rfl rfl (tNo rfl rfl rfl rfl (tNo rfl rfl rfl rfl (tQ rfl (qPickF rfl rfl) (tQ rfl (qAssign rfl) (tEnd (xThen (cRet (xRetBlock (xRetThen ?_)))))))))))))))
          refine xRet1 _ Tryd.results51 rfl fun w' s' => ⟨congrArg Value.bool ?_, s'.toExt (Sub.refl _)⟩
          rw [Bool.eq_iff_iff]
          simp only [instOk, fitsOk, hxl] at *
          simp only [Go.V.dsl, reduceCtorEq] at *
          omega
      · refine cSeq (cReg (tQ rfl (qEq rfl rfl) (tQ rfl (qAssign rfl) (tEnd (xThen ?_)))))
        refine cIf rfl (fun c48 => ?_) (fun c48 => ?_)
        · refine cSeq (cReg (tQ rfl (qFieldAddr Tryd.runUnderlying44 rfl Tryd.sizeOf3 rfl rfl rfl) (tQ rfl (qLd1M 0 Tryd.isAgg3 rfl rfl rfl) (tQ rfl (qMove rfl) (tQ rfl (qSub rfl rfl (w64 (by omega) (by omega))) (tCallQ rfl Tryd.call107 (first := []) (captured := []) rfl rfl (fun w' s' => within_) (tQ rfl (qMove rfl) ?_)))))))
          refine tCase 55 rfl (fun g55 => ?_) (fun g55 => ?_)
          · refine tGo rfl rfl (tQ rfl (qFieldAddr Tryd.runUnderlying44 rfl Tryd.sizeOf3 rfl rfl rfl) (tGo rfl rfl (tQ rfl (qLd1M 0 Tryd.isAgg3 rfl rfl rfl) (tGo rfl rfl (tQ rfl (qMove rfl) (tGo rfl rfl (tQ rfl (qSub rfl rfl (w64 (by omega) (by omega))) (tGo rfl rfl (tCallQ rfl Tryd.call107 (first := []) (captured := []) rfl rfl (fun w' s' => within_) (tQ rfl (qPickT rfl rfl) (tQ rfl (qMove rfl) ?_)))))))))))
            refine tCase 62 rfl (fun g62 => ?_) (fun g62 => ?_)
            · refine tGo rfl rfl (tQ rfl (qFieldAddr Tryd.runUnderlying44 rfl Tryd.sizeOf3 rfl rfl rfl) (tGo rfl rfl (tQ rfl (qLd1M 0 Tryd.isAgg3 rfl rfl rfl) (tGo rfl rfl (tQ rfl (qEq rfl rfl) (tQ rfl (qPickT rfl rfl) (tQ rfl (qAssign rfl) (tEnd (xThen (cRet (xRetBlock (xRetThen ?_))))))))))))
              refine xRet1 _ Tryd.results51 rfl fun w' s' => ⟨congrArg Value.bool ?_, s'.toExt (Sub.refl _)⟩
              rw [Bool.eq_iff_iff]
              simp only [instOk, fitsOk, hxl] at *
              simp only [Go.V.dsl, reduceCtorEq] at *
              omega
            · refine tNo rfl rfl rfl rfl (tNo rfl rfl rfl rfl (tNo rfl rfl rfl rfl (tQ rfl (qPickF rfl rfl) (tQ rfl (qAssign rfl) (tEnd (xThen (cRet (xRetBlock (xRetThen ?_)))))))))
              refine xRet1 _ Tryd.results51 rfl fun w' s' => ⟨congrArg Value.bool ?_, s'.toExt (Sub.refl _)⟩
              rw [Bool.eq_iff_iff]
              simp only [instOk, fitsOk, hxl] at *
              simp only [Go.V.dsl, reduceCtorEq] at *
              omega
          · refine tNo rfl rfl rfl rfl (tNo rfl rfl rfl rfl (tNo rfl rfl rfl rfl (tNo rfl rfl rfl rfl (tNo rfl rfl rfl rfl (tQ rfl (qPickF rfl rfl) (tQ rfl (qMove rfl) (tNo rfl rfl rfl rfl (tNo rfl rfl rfl rfl (tNo rfl rfl rfl rfl (tQ rfl (qPickF rfl rfl) (tQ rfl (qAssign rfl) ?_)))))))))))
            refine tEnd (xThen (cRet (xRetBlock (xRetThen ?_))))
            refine xRet1 _ Tryd.results51 rfl fun w' s' => ⟨congrArg Value.bool ?_, s'.toExt (Sub.refl _)⟩
            rw [Bool.eq_iff_iff]
            simp only [instOk, fitsOk, hxl] at *
            simp only [Go.V.dsl, reduceCtorEq] at *
            omega
        · refine cSeq (cReg (tQ rfl (qEq rfl rfl) (tQ rfl (qAssign rfl) (tEnd (xThen ?_)))))
          refine cIf rfl (fun c67 => ?_) (fun c67 => ?_)
          · refine cSeq (cReg (tQ rfl (qFieldAddr Tryd.runUnderlying44 rfl Tryd.sizeOf3 rfl rfl rfl) (tQ rfl (qLd1M 0 Tryd.isAgg3 rfl rfl rfl) (tQ rfl (qMove rfl) (tQ rfl (qSub rfl rfl (w64 (by omega) (by omega))) (tCallQ rfl Tryd.call107 (first := []) (captured := []) rfl rfl (fun w' s' => within_) (tQ rfl (qMove rfl) ?_)))))))
            refine tCase 74 rfl (fun g74 => ?_) (fun g74 => ?_)
            · refine tGo rfl rfl (tQ rfl (qFieldAddr Tryd.runUnderlying44 rfl Tryd.sizeOf3 rfl rfl rfl) (tGo rfl rfl (tQ rfl (qLd1M 0 Tryd.isAgg3 rfl rfl rfl) (tGo rfl rfl (tQ rfl (qMove rfl) (tGo rfl rfl (tQ rfl (qMul rfl rfl (w64 (by omega) (by omega))) (tGo rfl rfl (tQ rfl (qAdd rfl rfl (w64 (by omega) (by omega))) (tGo rfl rfl (tCallQ rfl Tryd.call107 (first := []) (captured := []) rfl rfl (fun w' s' => within_) ?_)))))))))))
              refine tQ rfl (qPickT rfl rfl) (tQ rfl (qAssign rfl) (tEnd (xThen (cRet (xRetBlock (xRetThen ?_))))))
              refine xRet1 _ Tryd.results51 rfl fun w' s' => ⟨congrArg Value.bool ?_, s'.toExt (Sub.refl _)⟩
              rw [Bool.eq_iff_iff]
              simp only [instOk, fitsOk, hxl] at *
              simp only [Go.V.dsl, reduceCtorEq] at *
              omega
            · refine tNo rfl rfl rfl rfl (tNo rfl rfl rfl rfl (tNo rfl rfl rfl rfl (tNo rfl rfl rfl rfl (tNo rfl rfl rfl rfl (tNo rfl rfl rfl rfl (tQ rfl (qPickF rfl rfl) (tQ rfl (qAssign rfl) (tEnd (xThen (cRet (xRetBlock (xRetThen ?_))))))))))))
              refine xRet1 _ Tryd.results51 rfl fun w' s' => ⟨congrArg Value.bool ?_, s'.toExt (Sub.refl _)⟩
              rw [Bool.eq_iff_iff]
              simp only [instOk, fitsOk, hxl] at *
              simp only [Go.V.dsl, reduceCtorEq] at *
              omega
          · refine cSeq (cReg (tQ rfl (qEq rfl rfl) (tQ rfl (qAssign rfl) (tEnd (xThen ?_)))))
            refine cIf rfl (fun c82 => ?_) (fun c82 => ?_)
            · refine cSeq (cReg (tQ rfl (qFieldAddr Tryd.runUnderlying44 rfl Tryd.sizeOf3 rfl rfl rfl) (tQ rfl (qLd1M 0 Tryd.isAgg3 rfl rfl rfl) (tQ rfl (qMove rfl) (tQ rfl (qSub rfl rfl (w64 (by omega) (by omega))) (tCallQ rfl Tryd.call107 (first := []) (captured := []) rfl rfl (fun w' s' => within_) (tQ rfl (qMove rfl) ?_)))))))
              refine tCase 89 rfl (fun g89 => ?_) (fun g89 => ?_)
              · refine tGo rfl rfl (tQ rfl (qFieldAddr Tryd.runUnderlying44 rfl Tryd.sizeOf3 rfl rfl rfl) (tGo rfl rfl (tQ rfl (qLd1M 0 Tryd.isAgg3 rfl rfl rfl) (tGo rfl rfl (tQ rfl (qMove rfl) (tGo rfl rfl (tCallQ rfl Tryd.call107 (first := []) (captured := []) rfl rfl (fun w' s' => within_) (tQ rfl (qPickT rfl rfl) (tQ rfl (qAssign rfl) (tEnd (xThen (cRet (xRetBlock (xRetThen ?_))))))))))))))
                refine xRet1 _ Tryd.results51 rfl fun w' s' => ⟨congrArg Value.bool ?_, s'.toExt (Sub.refl _)⟩
                rw [Bool.eq_iff_iff]
                simp only [instOk, fitsOk, hxl] at *
                simp only [Go.V.dsl, reduceCtorEq] at *
                omega
              · refine tNo rfl rfl rfl rfl (tNo rfl rfl rfl rfl (tNo rfl rfl rfl rfl (tNo rfl rfl rfl rfl (tQ rfl (qPickF rfl rfl) (tQ rfl (qAssign rfl) (tEnd (xThen (cRet (xRetBlock (xRetThen ?_))))))))))
                refine xRet1 _ Tryd.results51 rfl fun w' s' => ⟨congrArg Value.bool ?_, s'.toExt (Sub.refl _)⟩
                rw [Bool.eq_iff_iff]
                simp only [instOk, fitsOk, hxl] at *
                simp only [Go.V.dsl, reduceCtorEq] at *
                omega
            · refine cSeq (cSeq (cReg (tQ rfl (qEq rfl rfl) (tQ rfl (qAssign rfl) (tEnd (xThen ?_))))))
              refine cIf rfl (fun c95 => ?_) (fun c95 => ?_)
              · refine cSkip (xThen ?_)
                refine cIf rfl (fun c95 => ?_) (fun c95 => ?_)
                · refine cSeq (cReg (tQ rfl (qFieldAddr Tryd.runUnderlying44 rfl Tryd.sizeOf3 rfl rfl rfl) (tQ rfl (qLd1M 0 Tryd.isAgg3 rfl rfl rfl) (tQ rfl (qMove rfl) (tQ rfl (qSub rfl rfl (w64 (by omega) (by omega))) (tCallQ rfl Tryd.call107 (first := []) (captured := []) rfl rfl (fun w' s' => within_) (tQ rfl (qMove rfl) ?_)))))))
                  refine tCase 103 rfl (fun g103 => ?_) (fun g103 => ?_)
                  · refine tGo rfl rfl (tQ rfl (qFieldAddr Tryd.runUnderlying44 rfl Tryd.sizeOf3 rfl rfl rfl) (tGo rfl rfl (tQ rfl (qLd1M 0 Tryd.isAgg3 rfl rfl rfl) (tGo rfl rfl (tCallQ rfl Tryd.call107 (first := []) (captured := []) rfl rfl (fun w' s' => within_) (tQ rfl (qPickT rfl rfl) (tQ rfl (qAssign rfl) (tEnd (xThen (cRet (xRetBlock (xRetThen ?_))))))))))))
                    refine xRet1 _ Tryd.results51 rfl fun w' s' => ⟨congrArg Value.bool ?_, s'.toExt (Sub.refl _)⟩
                    rw [Bool.eq_iff_iff]
                    simp only [instOk, fitsOk, hxl] at *
                    simp only [Go.V.dsl, reduceCtorEq] at *
                    omega
                  · refine tNo rfl rfl rfl rfl (tNo rfl rfl rfl rfl (tNo rfl rfl rfl rfl (tQ rfl (qPickF rfl rfl) (tQ rfl (qAssign rfl) (tEnd (xThen (cRet (xRetBlock (xRetThen ?_)))))))))
                    refine xRet1 _ Tryd.results51 rfl fun w' s' => ⟨congrArg Value.bool ?_, s'.toExt (Sub.refl _)⟩
                    rw [Bool.eq_iff_iff]
                    simp only [instOk, fitsOk, hxl] at *
                    simp only [Go.V.dsl, reduceCtorEq] at *
                    omega
                · refine cSeq (cReg (tQ rfl (qEq rfl rfl) (tQ rfl (qAssign rfl) (tEnd (xThen ?_)))))
                  refine cIf rfl (fun c108 => ?_) (fun c108 => ?_)
                  · refine cSeq (cReg (tQ rfl (qFieldAddr Tryd.runUnderlying44 rfl Tryd.sizeOf3 rfl rfl rfl) (tQ rfl (qLd1M 0 Tryd.isAgg3 rfl rfl rfl) (tQ rfl (qMove rfl) (tQ rfl (qSub rfl rfl (w64 (by omega) (by omega))) (tCallQ rfl Tryd.call107 (first := []) (captured := []) rfl rfl (fun w' s' => within_) (tQ rfl (qMove rfl) ?_)))))))
                    refine tCase 115 rfl (fun g115 => ?_) (fun g115 => ?_)
                    · refine tGo rfl rfl (tQ rfl (qFieldAddr Tryd.runUnderlying44 rfl Tryd.sizeOf3 rfl rfl rfl) (tGo rfl rfl (tQ rfl (qLd1M 0 Tryd.isAgg3 rfl rfl rfl) (tGo rfl rfl (tQ rfl (qEq rfl rfl) (tQ rfl (qPickT rfl rfl) (tQ rfl (qAssign rfl) (tEnd (xThen (cRet (xRetBlock (xRetThen ?_))))))))))))
                      refine xRet1 _ Tryd.results51 rfl fun w' s' => ⟨congrArg Value.bool ?_, s'.toExt (Sub.refl _)⟩
                      rw [Bool.eq_iff_iff]
                      simp only [instOk, fitsOk, hxl] at *
                      simp only [Go.V.dsl, reduceCtorEq] at *
                      omega
                    · refine tNo rfl rfl rfl rfl (tNo rfl rfl rfl rfl (tNo rfl rfl rfl rfl (tQ rfl (qPickF rfl rfl) (tQ rfl (qAssign rfl) (tEnd (xThen (cRet (xRetBlock (xRetThen ?_)))))))))
                      refine xRet1 _ Tryd.results51 rfl fun w' s' => ⟨congrArg Value.bool ?_, s'.toExt (Sub.refl _)⟩
                      rw [Bool.eq_iff_iff]
                      simp only [instOk, fitsOk, hxl] at *
                      simp only [Go.V.dsl, reduceCtorEq] at *
                      omega
                  · refine cSeq (cSeq (cReg (tQ rfl (qEq rfl rfl) (tQ rfl (qAssign rfl) (tEnd (xThen ?_))))))
                    refine cIf rfl (fun c120 => ?_) (fun c120 => ?_)
                    · refine cSkip (xThen ?_)
                      refine cIf rfl (fun c120 => ?_) (fun c120 => ?_)
                      · refine cSeq (cReg (tQ rfl (qFieldAddr Tryd.runUnderlying44 rfl Tryd.sizeOf3 rfl rfl rfl) (tQ rfl (qLd1M 0 Tryd.isAgg3 rfl rfl rfl) (tQ rfl (qEq rfl rfl) (tQ rfl (qMove rfl) ?_)))))
                        refine tCase 126 rfl (fun g126 => ?_) (fun g126 => ?_)
                        · refine tGo rfl rfl (tQ rfl (qFieldAddr Tryd.runUnderlying44 rfl Tryd.sizeOf3 rfl rfl rfl) (tGo rfl rfl (tQ rfl (qLd1M 0 Tryd.isAgg3 rfl rfl rfl) (tGo rfl rfl (tQ rfl (qEq rfl rfl) (tQ rfl (qPickT rfl rfl) (tQ rfl (qAssign rfl) (tEnd (xThen (cRet (xRetBlock (xRetThen ?_))))))))))))
                          refine xRet1 _ Tryd.results51 rfl fun w' s' => ⟨congrArg Value.bool ?_, s'.toExt (Sub.refl _)⟩
                          rw [Bool.eq_iff_iff]
                          simp only [instOk, fitsOk, hxl] at *
                          simp only [Go.V.dsl, reduceCtorEq] at *
                          omega
                        · refine tNo rfl rfl rfl rfl (tNo rfl rfl rfl rfl (tNo rfl rfl rfl rfl (tQ rfl (qPickF rfl rfl) (tQ rfl (qAssign rfl) (tEnd (xThen (cRet (xRetBlock (xRetThen ?_)))))))))
                          refine xRet1 _ Tryd.results51 rfl fun w' s' => ⟨congrArg Value.bool ?_, s'.toExt (Sub.refl _)⟩
                          rw [Bool.eq_iff_iff]
                          simp only [instOk, fitsOk, hxl] at *
                          simp only [Go.V.dsl, reduceCtorEq] at *
                          omega
                      · refine cSkip (xBlock (xThen (cSeq (cReg (tQ rfl (qAssign rfl) (tEnd (xThen (cRet ?_))))))))
                        refine xRet1 _ Tryd.results51 rfl fun w' s' => ⟨congrArg Value.bool ?_, s'.toExt (Sub.refl _)⟩
                        rw [Bool.eq_iff_iff]
                        simp only [instOk, fitsOk, hxl] at *
                        simp only [Go.V.dsl, reduceCtorEq] at *
                        omega
                    · refine cReg (tQ rfl (qEq rfl rfl) (tQ rfl (qAssign rfl) (tEnd (xThen ?_))))
                      refine cIf rfl (fun c120 => ?_) (fun c120 => ?_)
                      · refine cSeq (cReg (tQ rfl (qFieldAddr Tryd.runUnderlying44 rfl Tryd.sizeOf3 rfl rfl rfl) (tQ rfl (qLd1M 0 Tryd.isAgg3 rfl rfl rfl) (tQ rfl (qEq rfl rfl) (tQ rfl (qMove rfl) ?_)))))
                        refine tCase 126 rfl (fun g126 => ?_) (fun g126 => ?_)
                        · refine tGo rfl rfl (tQ rfl (qFieldAddr Tryd.runUnderlying44 rfl Tryd.sizeOf3 rfl rfl rfl) (tGo rfl rfl (tQ rfl (qLd1M 0 Tryd.isAgg3 rfl rfl rfl) (tGo rfl rfl (tQ rfl (qEq rfl rfl) (tQ rfl (qPickT rfl rfl) (tQ rfl (qAssign rfl) (tEnd (xThen (cRet (xRetBlock (xRetThen ?_))))))))))))
                          refine xRet1 _ Tryd.results51 rfl fun w' s' => ⟨congrArg Value.bool ?_, s'.toExt (Sub.refl _)⟩
                          rw [Bool.eq_iff_iff]
                          simp only [instOk, fitsOk, hxl] at *
                          simp only [Go.V.dsl, reduceCtorEq] at *
                          omega
                        · refine tNo rfl rfl rfl rfl (tNo rfl rfl rfl rfl (tNo rfl rfl rfl rfl (tQ rfl (qPickF rfl rfl) (tQ rfl (qAssign rfl) (tEnd (xThen (cRet (xRetBlock (xRetThen ?_)))))))))
                          refine xRet1 _ Tryd.results51 rfl fun w' s' => ⟨congrArg Value.bool ?_, s'.toExt (Sub.refl _)⟩
                          rw [Bool.eq_iff_iff]
                          simp only [instOk, fitsOk, hxl] at *
                          simp only [Go.V.dsl, reduceCtorEq] at *
                          omega
                      · refine cSkip (xBlock (xThen (cSeq (cReg (tQ rfl (qAssign rfl) (tEnd (xThen (cRet ?_))))))))
                        refine xRet1 _ Tryd.results51 rfl fun w' s' => ⟨congrArg Value.bool ?_, s'.toExt (Sub.refl _)⟩
                        rw [Bool.eq_iff_iff]
                        simp only [instOk, fitsOk, hxl] at *
                        simp only [Go.V.dsl, reduceCtorEq] at *
                        omega
              · refine cReg (tQ rfl (qEq rfl rfl) (tQ rfl (qAssign rfl) (tEnd (xThen ?_))))
                refine cIf rfl (fun c95 => ?_) (fun c95 => ?_)
                · refine cSeq (cReg (tQ rfl (qFieldAddr Tryd.runUnderlying44 rfl Tryd.sizeOf3 rfl rfl rfl) (tQ rfl (qLd1M 0 Tryd.isAgg3 rfl rfl rfl) (tQ rfl (qMove rfl) (tQ rfl (qSub rfl rfl (w64 (by omega) (by omega))) (tCallQ rfl Tryd.call107 (first := []) (captured := []) rfl rfl (fun w' s' => within_) (tQ rfl (qMove rfl) ?_)))))))
                  refine tCase 103 rfl (fun g103 => ?_) (fun g103 => ?_)
                  · refine tGo rfl rfl (tQ rfl (qFieldAddr Tryd.runUnderlying44 rfl Tryd.sizeOf3 rfl rfl rfl) (tGo rfl rfl (tQ rfl (qLd1M 0 Tryd.isAgg3 rfl rfl rfl) (tGo rfl rfl (tCallQ rfl Tryd.call107 (first := []) (captured := []) rfl rfl (fun w' s' => within_) (tQ rfl (qPickT rfl rfl) (tQ rfl (qAssign rfl) (tEnd (xThen (cRet (xRetBlock (xRetThen ?_))))))))))))
                    refine xRet1 _ Tryd.results51 rfl fun w' s' => ⟨congrArg Value.bool ?_, s'.toExt (Sub.refl _)⟩
                    rw [Bool.eq_iff_iff]
                    simp only [instOk, fitsOk, hxl] at *
                    simp only [Go.V.dsl, reduceCtorEq] at *
                    omega
                  · refine tNo rfl rfl rfl rfl (tNo rfl rfl rfl rfl (tNo rfl rfl rfl rfl (tQ rfl (qPickF rfl rfl) (tQ rfl (qAssign rfl) (tEnd (xThen (cRet (xRetBlock (xRetThen ?_)))))))))
                    refine xRet1 _ Tryd.results51 rfl fun w' s' => ⟨congrArg Value.bool ?_, s'.toExt (Sub.refl _)⟩
                    rw [Bool.eq_iff_iff]
                    simp only [instOk, fitsOk, hxl] at *
                    simp only [Go.V.dsl, reduceCtorEq] at *
                    omega
                · refine cSeq (cReg (tQ rfl (qEq rfl rfl) (tQ rfl (qAssign rfl) (tEnd (xThen ?_)))))
                  refine cIf rfl (fun c108 => ?_) (fun c108 => ?_)
                  · refine cSeq (cReg (tQ rfl (qFieldAddr Tryd.runUnderlying44 rfl Tryd.sizeOf3 rfl rfl rfl) (tQ rfl (qLd1M 0 Tryd.isAgg3 rfl rfl rfl) (tQ rfl (qMove rfl) (tQ rfl (qSub rfl rfl (w64 (by omega) (by omega))) (tCallQ rfl Tryd.call107 (first := []) (captured := []) rfl rfl (fun w' s' => within_) (tQ rfl (qMove rfl) ?_)))))))
                    refine tCase 115 rfl (fun g115 => ?_) (fun g115 => ?_)
                    · refine tGo rfl rfl (tQ rfl (qFieldAddr Tryd.runUnderlying44 rfl Tryd.sizeOf3 rfl rfl rfl) (tGo rfl rfl (tQ rfl (qLd1M 0 Tryd.isAgg3 rfl rfl rfl) (tGo rfl rfl (tQ rfl (qEq rfl rfl) (tQ rfl (qPickT rfl rfl) (tQ rfl (qAssign rfl) (tEnd (xThen (cRet (xRetBlock (xRetThen ?_))))))))))))
                      refine xRet1 _ Tryd.results51 rfl fun w' s' => ⟨congrArg Value.bool ?_, s'.toExt (Sub.refl _)⟩
                      rw [Bool.eq_iff_iff]
                      simp only [instOk, fitsOk, hxl] at *
                      simp only [Go.V.dsl, reduceCtorEq] at *
                      omega
                    · refine tNo rfl rfl rfl rfl (tNo rfl rfl rfl rfl (tNo rfl rfl rfl rfl (tQ rfl (qPickF rfl rfl) (tQ rfl (qAssign rfl) (tEnd (xThen (cRet (xRetBlock (xRetThen ?_)))))))))
                      refine xRet1 _ Tryd.results51 rfl fun w' s' => ⟨congrArg Value.bool ?_, s'.toExt (Sub.refl _)⟩
                      rw [Bool.eq_iff_iff]
                      simp only [instOk, fitsOk, hxl] at *
                      simp only [Go.V.dsl, reduceCtorEq] at *
                      omega
                  · refine cSeq (cSeq (cReg (tQ rfl (qEq rfl rfl) (tQ rfl (qAssign rfl) (tEnd (xThen ?_))))))
                    refine cIf rfl (fun c120 => ?_) (fun c120 => ?_)
                    · refine cSkip (xThen ?_)
                      refine cIf rfl (fun c120 => ?_) (fun c120 => ?_)
                      · refine cSeq (cReg (tQ rfl (qFieldAddr Tryd.runUnderlying44 rfl Tryd.sizeOf3 rfl rfl rfl) (tQ rfl (qLd1M 0 Tryd.isAgg3 rfl rfl rfl) (tQ rfl (qEq rfl rfl) (tQ rfl (qMove rfl) ?_)))))
                        refine tCase 126 rfl (fun g126 => ?_) (fun g126 => ?_)
                        · refine tGo rfl rfl (tQ rfl (qFieldAddr Tryd.runUnderlying44 rfl Tryd.sizeOf3 rfl rfl rfl) (tGo rfl rfl (tQ rfl (qLd1M 0 Tryd.isAgg3 rfl rfl rfl) (tGo rfl rfl (tQ rfl (qEq rfl rfl) (tQ rfl (qPickT rfl rfl) (tQ rfl (qAssign rfl) (tEnd (xThen (cRet (xRetBlock (xRetThen ?_))))))))))))
                          refine xRet1 _ Tryd.results51 rfl fun w' s' => ⟨congrArg Value.bool ?_, s'.toExt (Sub.refl _)⟩
                          rw [Bool.eq_iff_iff]
                          simp only [instOk, fitsOk, hxl] at *
                          simp only [Go.V.dsl, reduceCtorEq] at *
                          omega
                        · refine tNo rfl rfl rfl rfl (tNo rfl rfl rfl rfl (tNo rfl rfl rfl rfl (tQ rfl (qPickF rfl rfl) (tQ rfl (qAssign rfl) (tEnd (xThen (cRet (xRetBlock (xRetThen ?_)))))))))
                          refine xRet1 _ Tryd.results51 rfl fun w' s' => ⟨congrArg Value.bool ?_, s'.toExt (Sub.refl _)⟩
                          rw [Bool.eq_iff_iff]
                          simp only [instOk, fitsOk, hxl] at *
                          simp only [Go.V.dsl, reduceCtorEq] at *
                          omega
                      · refine cSkip (xBlock (xThen (cSeq (cReg (tQ rfl (qAssign rfl) (tEnd (xThen (cRet ?_))))))))
                        refine xRet1 _ Tryd.results51 rfl fun w' s' => ⟨congrArg Value.bool ?_, s'.toExt (Sub.refl _)⟩
                        rw [Bool.eq_iff_iff]
                        simp only [instOk, fitsOk, hxl] at *
                        simp only [Go.V.dsl, reduceCtorEq] at *
                        omega
                    · refine cReg (tQ rfl (qEq rfl rfl) (tQ rfl (qAssign rfl) (tEnd (xThen ?_))))
                      refine cIf rfl (fun c120 => ?_) (fun c120 => ?_)
                      · refine cSeq (cReg (tQ rfl (qFieldAddr Tryd.runUnderlying44 rfl Tryd.sizeOf3 rfl rfl rfl) (tQ rfl (qLd1M 0 Tryd.isAgg3 rfl rfl rfl) (tQ rfl (qEq rfl rfl) (tQ rfl (qMove rfl) ?_)))))
                        refine tCase 126 rfl (fun g126 => ?_) (fun g126 => ?_)
                        · refine tGo rfl rfl (tQ rfl (qFieldAddr Tryd.runUnderlying44 rfl Tryd.sizeOf3 rfl rfl rfl) (tGo rfl rfl (tQ rfl (qLd1M 0 Tryd.isAgg3 rfl rfl rfl) (tGo rfl rfl (tQ rfl (qEq rfl rfl) (tQ rfl (qPickT rfl rfl) (tQ rfl (qAssign rfl) (tEnd (xThen (cRet (xRetBlock (xRetThen ?_))))))))))))
                          refine xRet1 _ Tryd.results51 rfl fun w' s' => ⟨congrArg Value.bool ?_, s'.toExt (Sub.refl _)⟩
                          rw [Bool.eq_iff_iff]
                          simp only [instOk, fitsOk, hxl] at *
                          simp only [Go.V.dsl, reduceCtorEq] at *
                          omega
                        · refine tNo rfl rfl rfl rfl (tNo rfl rfl rfl rfl (tNo rfl rfl rfl rfl (tQ rfl (qPickF rfl rfl) (tQ rfl (qAssign rfl) (tEnd (xThen (cRet (xRetBlock (xRetThen ?_)))))))))
                          refine xRet1 _ Tryd.results51 rfl fun w' s' => ⟨congrArg Value.bool ?_, s'.toExt (Sub.refl _)⟩
                          rw [Bool.eq_iff_iff]
                          simp only [instOk, fitsOk, hxl] at *
                          simp only [Go.V.dsl, reduceCtorEq] at *
                          omega
                      · refine cSkip (xBlock (xThen (cSeq (cReg (tQ rfl (qAssign rfl) (tEnd (xThen (cRet ?_))))))))
                        refine xRet1 _ Tryd.results51 rfl fun w' s' => ⟨congrArg Value.bool ?_, s'.toExt (Sub.refl _)⟩
                        rw [Bool.eq_iff_iff]
                        simp only [instOk, fitsOk, hxl] at *
                        simp only [Go.V.dsl, reduceCtorEq] at *
                        omega

theorem inst12F {F : Hp} {w : World} {A : Option Addr} {m c : Nat} {x : Ins} {n g : Int} (hF : Sub F (hp w)) (hx : RdR F A m x.set) (hm : m ≤ 1000000000) (hn : 0 ≤ n ∧ n ≤ 1000000000) (hg : 0 ≤ g ∧ g ≤ 1000000000) :
    Calls Tryd.prog 51 [.agg #[.int .i64 x.op, .slice A m c, .int .i64 x.x, .int .i64 x.y, .int .i64 x.n], .int .i64 n, .int .i64 g, .bool false].toArray w (fun e w' => e = .returned (.bool (decide (instOk x n g false))) ∧ Ext w w') := by
  replace hx := hx.mono hF
  have hxl := hx.len
  have hsc := setE_cases x.set
  refine enter' 131 Tryd.func51 Tryd.ntmps51 rfl rfl (cSeq (cReg (tBox rfl rfl rfl (cs := [_, _, _, _, _]) fun b4 => (tQ rfl (qAssign rfl) (tEnd (xThen (cSeq (cReg (tQ rfl (qAssign rfl) (tEnd (xThen (cSeq (cSeq (cReg (tQ rfl (qMove rfl) (tEnd (xThen (cIfF rfl (cSkip (xThen (cSeq (cSeq (cReg (tQ rfl (qFieldAddr Tryd.runUnderlying44 rfl Tryd.sizeOf3 rfl rfl rfl) ?_))))))))))))))))))))))))
  refine tQ rfl (qLd1M 0 Tryd.isAgg3 rfl rfl rfl) (tQ rfl (qNe rfl rfl) (tQ rfl (qMove rfl) ?_))
  refine tCase 14 rfl (fun g14 => ?_) (fun g14 => ?_)
  · refine tGo rfl rfl (tQ rfl (qFieldAddr Tryd.runUnderlying44 rfl Tryd.sizeOf42 rfl rfl rfl) (tGo rfl rfl (tQ rfl (qLd1M 0 Tryd.isAgg42 rfl rfl rfl) (tGo rfl rfl (tQ rfl (qLen Tryd.runUnderlying42 rfl rfl) (tGo rfl rfl (tQ rfl (qGt rfl rfl) (tQ rfl (qPickT rfl rfl) (tEnd (xThen ?_))))))))))
    refine cIf rfl (fun c19 => ?_) (fun c19 => ?_)
    · refine cSeq (cReg (tQ rfl (qAssign rfl) (tEnd (xThen (cRet (xRetThen ?_))))))
      refine xRet1 _ Tryd.results51 rfl fun w' s' => ⟨congrArg Value.bool ?_, s'.toExt (Sub.refl _)⟩
      rw [Bool.eq_iff_iff]
      simp only [instOk, fitsOk, hxl] at *
      simp only [Go.V.dsl, reduceCtorEq] at *
      omega
    · refine cSkip (xThen (cSeq (cSeq (cReg (tQ rfl (qFieldAddr Tryd.runUnderlying44 rfl Tryd.sizeOf3 rfl rfl rfl) (tQ rfl (qLd1M 0 Tryd.isAgg3 rfl rfl rfl) (tQ rfl (qNe rfl rfl) (tQ rfl (qMove rfl) ?_))))))))
      refine tCase 23 rfl (fun g23 => ?_) (fun g23 => ?_)
      · refine tGo rfl rfl (tQ rfl (qFieldAddr Tryd.runUnderlying44 rfl Tryd.sizeOf3 rfl rfl rfl) (tGo rfl rfl (tQ rfl (qLd1M 0 Tryd.isAgg3 rfl rfl rfl) (tGo rfl rfl (tQ rfl (qNe rfl rfl) (tQ rfl (qPickT rfl rfl) (tEnd (xThen ?_))))))))
        refine cIf rfl (fun c27 => ?_) (fun c27 => ?_)
        · refine cSeq (cReg (tQ rfl (qAssign rfl) (tEnd (xThen (cRet (xRetThen ?_))))))
          refine xRet1 _ Tryd.results51 rfl fun w' s' => ⟨congrArg Value.bool ?_, s'.toExt (Sub.refl _)⟩
          rw [Bool.eq_iff_iff]
          simp only [instOk, fitsOk, hxl] at *
          simp only [Go.V.dsl, reduceCtorEq] at *
          omega
        · refine cSkip (xThen (cSeq (cSeq (cReg (tQ rfl (qFieldAddr Tryd.runUnderlying44 rfl Tryd.sizeOf3 rfl rfl rfl) (tQ rfl (qLd1M 0 Tryd.isAgg3 rfl rfl rfl) (tEnd (xThen (cBlock (cSeq (cReg (tQ rfl (qEq rfl rfl) (tQ rfl (qAssign rfl) (tEnd (xThen ?_)))))))))))))))
          refine cIf rfl (fun c30 => ?_) (fun c30 => ?_)
          · refine cSeq (cReg (tQ rfl (qFieldAddr Tryd.runUnderlying44 rfl Tryd.sizeOf3 rfl rfl rfl) (tQ rfl (qLd1M 0 Tryd.isAgg3 rfl rfl rfl) (tQ rfl (qMove rfl) (tQ rfl (qSub rfl rfl (w64 (by omega) (by omega))) (tCallQ rfl Tryd.call107 (first := []) (captured := []) rfl rfl (fun w' s' => within_) (tQ rfl (qMove rfl) ?_)))))))
            refine tCase 37 rfl (fun g37 => ?_) (fun g37 => ?_)
            · refine tGo rfl rfl (tQ rfl (qFieldAddr Tryd.runUnderlying44 rfl Tryd.sizeOf3 rfl rfl rfl) (tGo rfl rfl (tQ rfl (qLd1M 0 Tryd.isAgg3 rfl rfl rfl) (tGo rfl rfl (tQ rfl (qEq rfl rfl) (tQ rfl (qPickT rfl rfl) (tQ rfl (qMove rfl) ?_)))))))
              refine tCase 42 rfl (fun g42 => ?_) (fun g42 => ?_)
              · refine tGo rfl rfl (tQ rfl (qFieldAddr Tryd.runUnderlying44 rfl Tryd.sizeOf42 rfl rfl rfl) (tGo rfl rfl (tQ rfl (qLd1M 0 Tryd.isAgg42 rfl rfl rfl) (tGo rfl rfl (tQ rfl (qMove rfl) (tGo rfl rfl (tCallQ rfl Tryd.call108 (first := []) (captured := []) rfl rfl (fun w' s' => fits12 s'.sub hx hm) (tQ rfl (qPickT rfl rfl) (tQ rfl (qAssign rfl) (tEnd (xThen (cRet (xRetBlock (xRetThen ?_))))))))))))))
                refine xRet1 _ Tryd.results51 rfl fun w' s' => ⟨congrArg Value.bool ?_, s'.toExt (Sub.refl _)⟩
                rw [Bool.eq_iff_iff]
                simp only [instOk, fitsOk, hxl] at *
                simp only [Go.V.dsl, reduceCtorEq] at *
                omega
              · refine tNo rfl rfl rfl rfl (tNo rfl rfl rfl rfl (tNo rfl rfl rfl rfl (tNo rfl rfl rfl rfl (tQ rfl (qPickF rfl rfl) (tQ rfl (qAssign rfl) (tEnd (xThen (cRet (xRetBlock (xRetThen ?_))))))))))
                refine xRet1 _ Tryd.results51 rfl fun w' s' => ⟨congrArg Value.bool ?_, s'.toExt (Sub.refl _)⟩
                rw [Bool.eq_iff_iff]
                simp only [instOk, fitsOk, hxl] at *
                simp only [Go.V.dsl, reduceCtorEq] at *
                omega
            · refine tNo rfl rfl rfl rfl (tNo rfl rfl rfl rfl (tNo rfl rfl rfl rfl (tQ rfl (qPickF rfl rfl) (tQ rfl (qMove rfl) (tNo rfl rfl rfl rfl (tNo rfl rfl rfl rfl (tNo rfl rfl rfl rfl (tNo rfl rfl rfl rfl (tQ rfl (qPickF rfl rfl) (tQ rfl (qAssign rfl) (tEnd (xThen (cRet (xRetBlock (xRetThen ?_)))))))))))))))
              refine xRet1 _ Tryd.results51 rfl fun w' s' => ⟨congrArg Value.bool ?_, s'.toExt (Sub.refl _)⟩
              rw [Bool.eq_iff_iff]
              simp only [instOk, fitsOk, hxl] at *
              simp only [Go.V.dsl, reduceCtorEq] at *
              omega
          · refine cSeq (cReg (tQ rfl (qEq rfl rfl) (tQ rfl (qAssign rfl) (tEnd (xThen ?_)))))
            refine cIf rfl (fun c48 => ?_) (fun c48 => ?_)
            · refine cSeq (cReg (tQ rfl (qFieldAddr Tryd.runUnderlying44 rfl Tryd.sizeOf3 rfl rfl rfl) (tQ rfl (qLd1M 0 Tryd.isAgg3 rfl rfl rfl) (tQ rfl (qMove rfl) (tQ rfl (qSub rfl rfl (w64 (by omega) (by omega))) (tCallQ rfl Tryd.call107 (first := []) (captured := []) rfl rfl (fun w' s' => within_) (tQ rfl (qMove rfl) ?_)))))))
              refine tCase 55 rfl (fun g55 => ?_) (fun g55 => ?_)
              · refine tGo rfl rfl (tQ rfl (qFieldAddr Tryd.runUnderlying44 rfl Tryd.sizeOf3 rfl rfl rfl) (tGo rfl rfl (tQ rfl (qLd1M 0 Tryd.isAgg3 rfl rfl rfl) (tGo rfl rfl (tQ rfl (qMove rfl) (tGo rfl rfl (tQ rfl (qSub rfl rfl (w64 (by omega) (by omega))) (tGo rfl rfl (tCallQ rfl Tryd.call107 (first := []) (captured := []) rfl rfl (fun w' s' => within_) (tQ rfl (qPickT rfl rfl) (tQ rfl (qMove rfl) ?_)))))))))))
                refine tCase 62 rfl (fun g62 => ?_) (fun g62 => ?_)
                · refine tGo rfl rfl (tQ rfl (qFieldAddr Tryd.runUnderlying44 rfl Tryd.sizeOf3 rfl rfl rfl) (tGo rfl rfl (tQ rfl (qLd1M 0 Tryd.isAgg3 rfl rfl rfl) (tGo rfl rfl (tQ rfl (qEq rfl rfl) (tQ rfl (qPickT rfl rfl) (tQ rfl (qAssign rfl) (tEnd (xThen (cRet (xRetBlock (xRetThen ?_))))))))))))
                  refine xRet1 _ Tryd.results51 rfl fun w' s' => ⟨congrArg Value.bool ?_, s'.toExt (Sub.refl _)⟩
                  rw [Bool.eq_iff_iff]
                  simp only [instOk, fitsOk, hxl] at *
                  simp only [Go.V.dsl, reduceCtorEq] at *
                  omega
                · refine tNo rfl rfl rfl rfl (tNo rfl rfl rfl rfl (tNo rfl rfl rfl rfl (tQ rfl (qPickF rfl rfl) (tQ rfl (qAssign rfl) (tEnd (xThen (cRet (xRetBlock (xRetThen ?_)))))))))
                  refine xRet1 _ Tryd.results51 rfl fun w' s' => ⟨congrArg Value.bool ?_, s'.toExt (Sub.refl _)⟩
                  rw [Bool.eq_iff_iff]
                  simp only [instOk, fitsOk, hxl] at *
                  simp only [Go.V.dsl, reduceCtorEq] at *
                  omega
              · refine tNo rfl rfl rfl rfl (tNo rfl rfl rfl rfl (tNo rfl rfl rfl rfl (tNo rfl rfl rfl rfl (tNo rfl rfl rfl rfl (tQ rfl (qPickF rfl rfl) (tQ rfl (qMove rfl) (tNo rfl rfl rfl rfl (tNo rfl rfl rfl rfl (tNo rfl rfl rfl rfl (tQ rfl (qPickF rfl rfl) (tQ rfl (qAssign rfl) ?_)))))))))))
                refine tEnd (xThen (cRet (xRetBlock (xRetThen ?_))))
                refine xRet1 _ Tryd.results51 rfl fun w' s' => ⟨congrArg Value.bool ?_, s'.toExt (Sub.refl _)⟩
                rw [Bool.eq_iff_iff]
                simp only [instOk, fitsOk, hxl] at *
                simp only [Go.V.dsl, reduceCtorEq] at *
                omega
            · refine cSeq (cReg (tQ rfl (qEq rfl rfl) (tQ rfl (qAssign rfl) (tEnd (xThen ?_)))))
              refine cIf rfl (fun c67 => ?_) (fun c67 => ?_)
              · refine cSeq (cReg (tQ rfl (qFieldAddr Tryd.runUnderlying44 rfl Tryd.sizeOf3 rfl rfl rfl) (tQ rfl (qLd1M 0 Tryd.isAgg3 rfl rfl rfl) (tQ rfl (qMove rfl) (tQ rfl (qSub rfl rfl (w64 (by omega) (by omega))) (tCallQ rfl Tryd.call107 (first := []) (captured := []) rfl rfl (fun w' s' => within_) (tQ rfl (qMove rfl) ?_)))))))
                refine tCase 74 rfl (fun g74 => ?_) (fun g74 => ?_)
                · refine tGo rfl rfl (tQ rfl (qFieldAddr Tryd.runUnderlying44 rfl Tryd.sizeOf3 rfl rfl rfl) (tGo rfl rfl (tQ rfl (qLd1M 0 Tryd.isAgg3 rfl rfl rfl) (tGo rfl rfl (tQ rfl (qMove rfl) (tGo rfl rfl (tQ rfl (qMul rfl rfl (w64 (by omega) (by omega))) (tGo rfl rfl (tQ rfl (qAdd rfl rfl (w64 (by omega) (by omega))) (tGo rfl rfl (tCallQ rfl Tryd.call107 (first := []) (captured := []) rfl rfl (fun w' s' => within_) ?_)))))))))))
                  refine tQ rfl (qPickT rfl rfl) (tQ rfl (qAssign rfl) (tEnd (xThen (cRet (xRetBlock (xRetThen ?_))))))
                  refine xRet1 _ Tryd.results51 rfl fun w' s' => ⟨congrArg Value.bool ?_, s'.toExt (Sub.refl _)⟩
                  rw [Bool.eq_iff_iff]
                  simp only [instOk, fitsOk, hxl] at *
                  simp only [Go.V.dsl, reduceCtorEq] at *
                  omega
                · refine tNo rfl rfl rfl rfl (tNo rfl rfl rfl rfl (tNo rfl rfl rfl rfl (tNo rfl rfl rfl rfl (tNo rfl rfl rfl rfl (tNo rfl rfl rfl rfl (tQ rfl (qPickF rfl rfl) (tQ rfl (qAssign rfl) (tEnd (xThen (cRet (xRetBlock (xRetThen ?_))))))))))))
                  refine xRet1 _ Tryd.results51 rfl fun w' s' => ⟨congrArg Value.bool ?_, s'.toExt (Sub.refl _)⟩
                  rw [Bool.eq_iff_iff]
                  simp only [instOk, fitsOk, hxl] at *
                  simp only [Go.V.dsl, reduceCtorEq] at *
                  omega
              · refine cSeq (cReg (tQ rfl (qEq rfl rfl) (tQ rfl (qAssign rfl) (tEnd (xThen ?_)))))
                refine cIf rfl (fun c82 => ?_) (fun c82 => ?_)
                · refine cSeq (cReg (tQ rfl (qFieldAddr Tryd.runUnderlying44 rfl Tryd.sizeOf3 rfl rfl rfl) (tQ rfl (qLd1M 0 Tryd.isAgg3 rfl rfl rfl) (tQ rfl (qMove rfl) (tQ rfl (qSub rfl rfl (w64 (by omega) (by omega))) (tCallQ rfl Tryd.call107 (first := []) (captured := []) rfl rfl (fun w' s' => within_) (tQ rfl (qMove rfl) ?_)))))))
                  refine tCase 89 rfl (fun g89 => ?_) (fun g89 => ?_)
                  · refine tGo rfl rfl (tQ rfl (qFieldAddr Tryd.runUnderlying44 rfl Tryd.sizeOf3 rfl rfl rfl) (tGo rfl rfl (tQ rfl (qLd1M 0 Tryd.isAgg3 rfl rfl rfl) (tGo rfl rfl (tQ rfl (qMove rfl) (tGo rfl rfl (tCallQ rfl Tryd.call107 (first := []) (captured := []) rfl rfl (fun w' s' => within_) (tQ rfl (qPickT rfl rfl) (tQ rfl (qAssign rfl) (tEnd (xThen (cRet (xRetBlock (xRetThen ?_))))))))))))))
                    refine xRet1 _ Tryd.results51 rfl fun w' s' => ⟨congrArg Value.bool ?_, s'.toExt (Sub.refl _)⟩
                    rw [Bool.eq_iff_iff]
                    simp only [instOk, fitsOk, hxl] at *
                    simp only [Go.V.dsl, reduceCtorEq] at *
                    omega
                  · refine tNo rfl rfl rfl rfl (tNo rfl rfl rfl rfl (tNo rfl rfl rfl rfl (tNo rfl rfl rfl rfl (tQ rfl (qPickF rfl rfl) (tQ rfl (qAssign rfl) (tEnd (xThen (cRet (xRetBlock (xRetThen ?_))))))))))
                    refine xRet1 _ Tryd.results51 rfl fun w' s' => ⟨congrArg Value.bool ?_, s'.toExt (Sub.refl _)⟩
                    rw [Bool.eq_iff_iff]
                    simp only [instOk, fitsOk, hxl] at *
                    simp only [Go.V.dsl, reduceCtorEq] at *
                    omega
                · refine cSeq (cSeq (cReg (tQ rfl (qEq rfl rfl) (tQ rfl (qAssign rfl) (tEnd (xThen ?_))))))
                  refine cIf rfl (fun c95 => ?_) (fun c95 => ?_)
                  · refine cSkip (xThen ?_)
                    refine cIf rfl (fun c95 => ?_) (fun c95 => ?_)
                    · refine cSeq (cReg (tQ rfl (qFieldAddr Tryd.runUnderlying44 rfl Tryd.sizeOf3 rfl rfl rfl) (tQ rfl (qLd1M 0 Tryd.isAgg3 rfl rfl rfl) (tQ rfl (qMove rfl) (tQ rfl (qSub rfl rfl (w64 (by omega) (by omega))) (tCallQ rfl Tryd.call107 (first := []) (captured := []) rfl rfl (fun w' s' => within_) (tQ rfl (qMove rfl) ?_)))))))
                      refine tCase 103 rfl (fun g103 => ?_) (fun g103 => ?_)
                      · refine tGo rfl rfl (tQ rfl (qFieldAddr Tryd.runUnderlying44 rfl Tryd.sizeOf3 rfl rfl rfl) (tGo rfl rfl (tQ rfl (qLd1M 0 Tryd.isAgg3 rfl rfl rfl) (tGo rfl rfl (tCallQ rfl Tryd.call107 (first := []) (captured := []) rfl rfl (fun w' s' => within_) (tQ rfl (qPickT rfl rfl) (tQ rfl (qAssign rfl) (tEnd (xThen (cRet (xRetBlock (xRetThen ?_))))))))))))
                        refine xRet1 _ Tryd.results51 rfl fun w' s' => ⟨congrArg Value.bool ?_, s'.toExt (Sub.refl _)⟩
                        rw [Bool.eq_iff_iff]
                        simp only [instOk, fitsOk, hxl] at *
                        simp only [Go.V.dsl, reduceCtorEq] at *
                        omega
                      · refine tNo rfl rfl rfl rfl (tNo rfl rfl rfl rfl (tNo rfl rfl rfl rfl (tQ rfl (qPickF rfl rfl) (tQ rfl (qAssign rfl) (tEnd (xThen (cRet (xRetBlock (xRetThen ?_)))))))))
                        refine xRet1 _ Tryd.results51 rfl fun w' s' => ⟨congrArg Value.bool ?_, s'.toExt (Sub.refl _)⟩
                        rw [Bool.eq_iff_iff]
                        simp only [instOk, fitsOk, hxl] at *
                        simp only [Go.V.dsl, reduceCtorEq] at *
                        omega
                    · refine cSeq (cReg (tQ rfl (qEq rfl rfl) (tQ rfl (qAssign rfl) (tEnd (xThen ?_)))))
                      refine cIf rfl (fun c108 => ?_) (fun c108 => ?_)
                      · refine cSeq (cReg (tQ rfl (qFieldAddr Tryd.runUnderlying44 rfl Tryd.sizeOf3 rfl rfl rfl) (tQ rfl (qLd1M 0 Tryd.isAgg3 rfl rfl rfl) (tQ rfl (qMove rfl) (tQ rfl (qSub rfl rfl (w64 (by omega) (by omega))) (tCallQ rfl Tryd.call107 (first := []) (captured := []) rfl rfl (fun w' s' => within_) (tQ rfl (qMove rfl) ?_)))))))
                        refine tCase 115 rfl (fun g115 => ?_) (fun g115 => ?_)
                        · refine tGo rfl rfl (tQ rfl (qFieldAddr Tryd.runUnderlying44 rfl Tryd.sizeOf3 rfl rfl rfl) (tGo rfl rfl (tQ rfl (qLd1M 0 Tryd.isAgg3 rfl rfl rfl) (tGo rfl rfl (tQ rfl (qEq rfl rfl) (tQ rfl (qPickT rfl rfl) (tQ rfl (qAssign rfl) (tEnd (xThen (cRet (xRetBlock (xRetThen ?_))))))))))))
                          refine xRet1 _ Tryd.results51 rfl fun w' s' => ⟨congrArg Value.bool ?_, s'.toExt (Sub.refl _)⟩
                          rw [Bool.eq_iff_iff]
                          simp only [instOk, fitsOk, hxl] at *
                          simp only [Go.V.dsl, reduceCtorEq] at *
                          omega
                        · refine tNo rfl rfl rfl rfl (tNo rfl rfl rfl rfl (tNo rfl rfl rfl rfl (tQ rfl (qPickF rfl rfl) (tQ rfl (qAssign rfl) (tEnd (xThen (cRet (xRetBlock (xRetThen ?_)))))))))
                          refine xRet1 _ Tryd.results51 rfl fun w' s' => ⟨congrArg Value.bool ?_, s'.toExt (Sub.refl _)⟩
                          rw [Bool.eq_iff_iff]
                          simp only [instOk, fitsOk, hxl] at *
                          simp only [Go.V.dsl, reduceCtorEq] at *
                          omega
                      · refine cSeq (cSeq (cReg (tQ rfl (qEq rfl rfl) (tQ rfl (qAssign rfl) (tEnd (xThen ?_))))))
                        refine cIf rfl (fun c120 => ?_) (fun c120 => ?_)
                        · refine cSkip (xThen ?_)
                          refine cIf rfl (fun c120 => ?_) (fun c120 => ?_)
                          · refine cSeq (cReg (tQ rfl (qFieldAddr Tryd.runUnderlying44 rfl Tryd.sizeOf3 rfl rfl rfl) (tQ rfl (qLd1M 0 Tryd.isAgg3 rfl rfl rfl) (tQ rfl (qEq rfl rfl) (tQ rfl (qMove rfl) ?_)))))
                            refine tCase 126 rfl (fun g126 => ?_) (fun g126 => ?_)
                            · refine tGo rfl rfl (tQ rfl (qFieldAddr Tryd.runUnderlying44 rfl Tryd.sizeOf3 rfl rfl rfl) (tGo rfl rfl (tQ rfl (qLd1M 0 Tryd.isAgg3 rfl rfl rfl) (tGo rfl rfl (tQ rfl (qEq rfl rfl) (tQ rfl (qPickT rfl rfl) (tQ rfl (qAssign rfl) (tEnd (xThen (cRet (xRetBlock (xRetThen ?_))))))))))))
                              refine xRet1 _ Tryd.results51 rfl fun w' s' => ⟨congrArg Value.bool ?_, s'.toExt (Sub.refl _)⟩
                              rw [Bool.eq_iff_iff]
                              simp only [instOk, fitsOk, hxl] at *
                              simp only [Go.V.dsl, reduceCtorEq] at *
                              omega
                            · refine tNo rfl rfl rfl rfl (tNo rfl rfl rfl rfl (tNo rfl rfl rfl rfl (tQ rfl (qPickF rfl rfl) (tQ rfl (qAssign rfl) (tEnd (xThen (cRet (xRetBlock (xRetThen ?_)))))))))
                              refine xRet1 _ Tryd.results51 rfl fun w' s' => ⟨congrArg Value.bool ?_, s'.toExt (Sub.refl _)⟩
                              rw [Bool.eq_iff_iff]
                              simp only [instOk, fitsOk, hxl] at *
                              simp only [Go.V.dsl, reduceCtorEq] at *
                              omega
                          · refine cSkip (xBlock (xThen (cSeq (cReg (tQ rfl (qAssign rfl) (tEnd (xThen (cRet ?_))))))))
                            refine xRet1 _ Tryd.results51 rfl fun w' s' => ⟨congrArg Value.bool ?_, s'.toExt (Sub.refl _)⟩
                            rw [Bool.eq_iff_iff]
                            simp only [instOk, fitsOk, hxl] at *
                            simp only [Go.V.dsl, reduceCtorEq] at *
                            omega
                        · refine cReg (tQ rfl (qEq rfl rfl) (tQ rfl (qAssign rfl) (tEnd (xThen ?_))))
                          refine cIf rfl (fun c120 => ?_) (fun c120 => ?_)
                          · refine cSeq (cReg (tQ rfl (qFieldAddr Tryd.runUnderlying44 rfl Tryd.sizeOf3 rfl rfl rfl) (tQ rfl (qLd1M 0 Tryd.isAgg3 rfl rfl rfl) (tQ rfl (qEq rfl rfl) (tQ rfl (qMove rfl) ?_)))))
                            refine tCase 126 rfl (fun g126 => ?_) (fun g126 => ?_)
                            · refine tGo rfl rfl (tQ rfl (qFieldAddr Tryd.runUnderlying44 rfl Tryd.sizeOf3 rfl rfl rfl) (tGo rfl rfl (tQ rfl (qLd1M 0 Tryd.isAgg3 rfl rfl rfl) (tGo rfl rfl (tQ rfl (qEq rfl rfl) (tQ rfl (qPickT rfl rfl) (tQ rfl (qAssign rfl) (tEnd (xThen (cRet (xRetBlock (xRetThen ?_))))))))))))
                              refine xRet1 _ Tryd.results51 rfl fun w' s' => ⟨congrArg Value.bool ?_, s'.toExt (Sub.refl _)⟩
                              rw [Bool.eq_iff_iff]
                              simp only [instOk, fitsOk, hxl] at *
                              simp only [Go.V.dsl, reduceCtorEq] at *
                              omega
                            · refine tNo rfl rfl rfl rfl (tNo rfl rfl rfl rfl (tNo rfl rfl rfl rfl (tQ rfl (qPickF rfl rfl) (tQ rfl (qAssign rfl) (tEnd (xThen (cRet (xRetBlock (xRetThen ?_)))))))))
                              refine xRet1 _ Tryd.results51 rfl fun w' s' => ⟨congrArg Value.bool ?_, s'.toExt (Sub.refl _)⟩
                              rw [Bool.eq_iff_iff]
                              simp only [instOk, fitsOk, hxl] at *
                              simp only [Go.V.dsl, reduceCtorEq] at *
                              omega
                          · refine cSkip (xBlock (xThen (cSeq (cReg (tQ rfl (qAssign rfl) (tEnd (xThen (cRet ?_))))))))
                            refine xRet1 _ Tryd.results51 rfl fun w' s' => ⟨congrArg Value.bool ?_, s'.toExt (Sub.refl _)⟩
                            rw [Bool.eq_iff_iff]
                            simp only [instOk, fitsOk, hxl] at *
                            simp only [Go.V.dsl, reduceCtorEq] at *
                            omega
                  · refine cReg (tQ rfl (qEq rfl rfl) (tQ rfl (qAssign rfl) (tEnd (xThen ?_))))
                    refine cIf rfl (fun c95 => ?_) (fun c95 => ?_)
                    · refine cSeq (cReg (tQ rfl (qFieldAddr Tryd.runUnderlying44 rfl Tryd.sizeOf3 rfl rfl rfl) (tQ rfl (qLd1M 0 Tryd.isAgg3 rfl rfl rfl) (tQ rfl (qMove rfl) (tQ rfl (qSub rfl rfl (w64 (by omega) (by omega))) (tCallQ rfl Tryd.call107 (first := []) (captured := []) rfl rfl (fun w' s' => within_) (tQ rfl (qMove rfl) ?_)))))))
                      refine tCase 103 rfl (fun g103 => ?_) (fun g103 => ?_)
                      · refine tGo rfl rfl (tQ rfl (qFieldAddr Tryd.runUnderlying44 rfl Tryd.sizeOf3 rfl rfl rfl) (tGo rfl rfl (tQ rfl (qLd1M 0 Tryd.isAgg3 rfl rfl rfl) (tGo rfl rfl (tCallQ rfl Tryd.call107 (first := []) (captured := []) rfl rfl (fun w' s' => within_) (tQ rfl (qPickT rfl rfl) (tQ rfl (qAssign rfl) (tEnd (xThen (cRet (xRetBlock (xRetThen ?_))))))))))))
                        refine xRet1 _ Tryd.results51 rfl fun w' s' => ⟨congrArg Value.bool ?_, s'.toExt (Sub.refl _)⟩
                        rw [Bool.eq_iff_iff]
                        simp only [instOk, fitsOk, hxl] at *
                        simp only [Go.V.dsl, reduceCtorEq] at *
                        omega
                      · refine tNo rfl rfl rfl rfl (tNo rfl rfl rfl rfl (tNo rfl rfl rfl rfl (tQ rfl (qPickF rfl rfl) (tQ rfl (qAssign rfl) (tEnd (xThen (cRet (xRetBlock (xRetThen ?_)))))))))
                        refine xRet1 _ Tryd.results51 rfl fun w' s' => ⟨congrArg Value.bool ?_, s'.toExt (Sub.refl _)⟩
                        rw [Bool.eq_iff_iff]
                        simp only [instOk, fitsOk, hxl] at *
                        simp only [Go.V.dsl, reduceCtorEq] at *
                        omega
                    · refine cSeq (cReg (tQ rfl (qEq rfl rfl) (tQ rfl (qAssign rfl) (tEnd (xThen ?_)))))
                      refine cIf rfl (fun c108 => ?_) (fun c108 => ?_)
                      · refine cSeq (cReg (tQ rfl (qFieldAddr Tryd.runUnderlying44 rfl Tryd.sizeOf3 rfl rfl rfl) (tQ rfl (qLd1M 0 Tryd.isAgg3 rfl rfl rfl) (tQ rfl (qMove rfl) (tQ rfl (qSub rfl rfl (w64 (by omega) (by omega))) (tCallQ rfl Tryd.call107 (first := []) (captured := []) rfl rfl (fun w' s' => within_) (tQ rfl (qMove rfl) ?_)))))))
                        refine tCase 115 rfl (fun g115 => ?_) (fun g115 => ?_)
                        · refine tGo rfl rfl (tQ rfl (qFieldAddr Tryd.runUnderlying44 rfl Tryd.sizeOf3 rfl rfl rfl) (tGo rfl rfl (tQ rfl (qLd1M 0 Tryd.isAgg3 rfl rfl rfl) (tGo rfl rfl (tQ rfl (qEq rfl rfl) (tQ rfl (qPickT rfl rfl) (tQ rfl (qAssign rfl) (tEnd (xThen (cRet (xRetBlock (xRetThen ?_))))))))))))
                          refine xRet1 _ Tryd.results51 rfl fun w' s' => ⟨congrArg Value.bool ?_, s'.toExt (Sub.refl _)⟩
                          rw [Bool.eq_iff_iff]
                          simp only [instOk, fitsOk, hxl] at *
                          simp only [Go.V.dsl, reduceCtorEq] at *
                          omega
                        · refine tNo rfl rfl rfl rfl (tNo rfl rfl rfl rfl (tNo rfl rfl rfl rfl (tQ rfl (qPickF rfl rfl) (tQ rfl (qAssign rfl) (tEnd (xThen (cRet (xRetBlock (xRetThen ?_)))))))))
                          refine xRet1 _ Tryd.results51 rfl fun w' s' => ⟨congrArg Value.bool ?_, s'.toExt (Sub.refl _)⟩
                          rw [Bool.eq_iff_iff]
                          simp only [instOk, fitsOk, hxl] at *
                          simp only [Go.V.dsl, reduceCtorEq] at *
                          omega
                      · refine cSeq (cSeq (cReg (tQ rfl (qEq rfl rfl) (tQ rfl (qAssign rfl) (tEnd (xThen ?_))))))
                        refine cIf rfl (fun c120 => ?_) (fun c120 => ?_)
                        · refine cSkip (xThen ?_)
                          refine cIf rfl (fun c120 => ?_) (fun c120 => ?_)
                          · refine cSeq (cReg (tQ rfl (qFieldAddr Tryd.runUnderlying44 rfl Tryd.sizeOf3 rfl rfl rfl) (tQ rfl (qLd1M 0 Tryd.isAgg3 rfl rfl rfl) (tQ rfl (qEq rfl rfl) (tQ rfl (qMove rfl) ?_)))))
                            refine tCase 126 rfl (fun g126 => ?_) (fun g126 => ?_)
                            · refine tGo rfl rfl (tQ rfl (qFieldAddr Tryd.runUnderlying44 rfl Tryd.sizeOf3 rfl rfl rfl) (tGo rfl rfl (tQ rfl (qLd1M 0 Tryd.isAgg3 rfl rfl rfl) (tGo rfl rfl (tQ rfl (qEq rfl rfl) (tQ rfl (qPickT rfl rfl) (tQ rfl (qAssign rfl) (tEnd (xThen (cRet (xRetBlock (xRetThen ?_))))))))))))
                              refine xRet1 _ Tryd.results51 rfl fun w' s' => ⟨congrArg Value.bool ?_, s'.toExt (Sub.refl _)⟩
                              rw [Bool.eq_iff_iff]
                              simp only [instOk, fitsOk, hxl] at *
                              simp only [Go.V.dsl, reduceCtorEq] at *
                              omega
                            · refine tNo rfl rfl rfl rfl (tNo rfl rfl rfl rfl (tNo rfl rfl rfl rfl (tQ rfl (qPickF rfl rfl) (tQ rfl (qAssign rfl) (tEnd (xThen (cRet (xRetBlock (xRetThen ?_)))))))))
                              refine xRet1 _ Tryd.results51 rfl fun w' s' => ⟨congrArg Value.bool ?_, s'.toExt (Sub.refl _)⟩
                              rw [Bool.eq_iff_iff]
                              simp only [instOk, fitsOk, hxl] at *
                              simp only [Go.V.dsl, reduceCtorEq] at *
                              omega
                          · refine cSkip (xBlock (xThen (cSeq (cReg (tQ rfl (qAssign rfl) (tEnd (xThen (cRet ?_))))))))
                            refine xRet1 _ Tryd.results51 rfl fun w' s' => ⟨congrArg Value.bool ?_, s'.toExt (Sub.refl _)⟩
                            rw [Bool.eq_iff_iff]
                            simp only [instOk, fitsOk, hxl] at *
                            simp only [Go.V.dsl, reduceCtorEq] at *
                            omega
                        · refine cReg (tQ rfl (qEq rfl rfl) (tQ rfl (qAssign rfl) (tEnd (xThen ?_))))
                          refine cIf rfl (fun c120 => ?_) (fun c120 => ?_)
                          · refine cSeq (cReg (tQ rfl (qFieldAddr Tryd.runUnderlying44 rfl Tryd.sizeOf3 rfl rfl rfl) (tQ rfl (qLd1M 0 Tryd.isAgg3 rfl rfl rfl) (tQ rfl (qEq rfl rfl) (tQ rfl (qMove rfl) ?_)))))
                            refine tCase 126 rfl (fun g126 => ?_) (fun g126 => ?_)
                            · refine tGo rfl rfl (tQ rfl (qFieldAddr Tryd.runUnderlying44 rfl Tryd.sizeOf3 rfl rfl rfl) (tGo rfl rfl (tQ rfl (qLd1M 0 Tryd.isAgg3 rfl rfl rfl) (tGo rfl rfl (tQ rfl (qEq rfl rfl) (tQ rfl (qPickT rfl rfl) (tQ rfl (qAssign rfl) (tEnd (xThen (cRet (xRetBlock (xRetThen ?_))))))))))))
                              refine xRet1 _ Tryd.results51 rfl fun w' s' => ⟨congrArg Value.bool ?_, s'.toExt (Sub.refl _)⟩
                              rw [Bool.eq_iff_iff]
                              simp only [instOk, fitsOk, hxl] at *
                              simp only [Go.V.dsl, reduceCtorEq] at *
                              omega
                            · refine tNo rfl rfl rfl rfl (tNo rfl rfl rfl rfl (tNo rfl rfl rfl rfl (tQ rfl (qPickF rfl rfl) (tQ rfl (qAssign rfl) (tEnd (xThen (cRet (xRetBlock (xRetThen ?_)))))))))
                              refine xRet1 _ Tryd.results51 rfl fun w' s' => ⟨congrArg Value.bool ?_, s'.toExt (Sub.refl _)⟩
                              rw [Bool.eq_iff_iff]
                              simp only [instOk, fitsOk, hxl] at *
                              simp only [Go.V.dsl, reduceCtorEq] at *
                              omega
                          · refine cSkip (xBlock (xThen (cSeq (cReg (tQ rfl (qAssign rfl) (tEnd (xThen (cRet ?_))))))))
                            refine xRet1 _ Tryd.results51 rfl fun w' s' => ⟨congrArg Value.bool ?_, s'.toExt (Sub.refl _)⟩
                            rw [Bool.eq_iff_iff]
                            simp only [instOk, fitsOk, hxl] at *
                            simp only [Go.V.dsl, reduceCtorEq] at *
                            omega
      · refine tNo rfl rfl rfl rfl (tNo rfl rfl rfl rfl (tNo rfl rfl rfl rfl (tQ rfl (qPickF rfl rfl) (tEnd (xThen (cIfF rfl (cSkip (xThen (cSeq (cSeq (cReg (tQ rfl (qFieldAddr Tryd.runUnderlying44 rfl Tryd.sizeOf3 rfl rfl rfl) (tQ rfl (qLd1M 0 Tryd.isAgg3 rfl rfl rfl) (tEnd (xThen (cBlock (cSeq (cReg (tQ rfl (qEq rfl rfl) (tQ rfl (qAssign rfl) ?_))))))))))))))))))))
        refine tEnd (xThen ?_)
        refine cIf rfl (fun c30 => ?_) (fun c30 => ?_)
        · refine cSeq (cReg (tQ rfl (qFieldAddr Tryd.runUnderlying44 rfl Tryd.sizeOf3 rfl rfl rfl) (tQ rfl (qLd1M 0 Tryd.isAgg3 rfl rfl rfl) (tQ rfl (qMove rfl) (tQ rfl (qSub rfl rfl (w64 (by omega) (by omega))) (tCallQ rfl Tryd.call107 (first := []) (captured := []) rfl rfl (fun w' s' => within_) (tQ rfl (qMove rfl) ?_)))))))
          refine tCase 37 rfl (fun g37 => ?_) (fun g37 => ?_)
          · refine tGo rfl rfl (tQ rfl (qFieldAddr Tryd.runUnderlying44 rfl Tryd.sizeOf3 rfl rfl rfl) (tGo rfl rfl (tQ rfl (qLd1M 0 Tryd.isAgg3 rfl rfl rfl) (tGo rfl rfl (tQ rfl (qEq rfl rfl) (tQ rfl (qPickT rfl rfl) (tQ rfl (qMove rfl) ?_)))))))
            refine tCase 42 rfl (fun g42 => ?_) (fun g42 => ?_)
            · refine tGo rfl rfl (tQ rfl (qFieldAddr Tryd.runUnderlying44 rfl Tryd.sizeOf42 rfl rfl rfl) (tGo rfl rfl (tQ rfl (qLd1M 0 Tryd.isAgg42 rfl rfl rfl) (tGo rfl rfl (tQ rfl (qMove rfl) (tGo rfl rfl (tCallQ rfl Tryd.call108 (first := []) (captured := []) rfl rfl (fun w' s' => fits12 s'.sub hx hm) (tQ rfl (qPickT rfl rfl) (tQ rfl (qAssign rfl) (tEnd (xThen (cRet (xRetBlock (xRetThen ?_))))))))))))))
              refine xRet1 _ Tryd.results51 rfl fun w' s' => ⟨congrArg Value.bool ?_, s'.toExt (Sub.refl _)⟩
              rw [Bool.eq_iff_iff]
              simp only [instOk, fitsOk, hxl] at *
              simp only [Go.V.dsl, reduceCtorEq] at *
              omega
            · refine tNo rfl rfl rfl rfl (tNo rfl rfl rfl rfl (tNo rfl rfl rfl rfl (tNo rfl rfl rfl rfl (tQ rfl (qPickF rfl rfl) (tQ rfl (qAssign rfl) (tEnd (xThen (cRet (xRetBlock (xRetThen ?_))))))))))
              refine xRet1 _ Tryd.results51 rfl fun w' s' => ⟨congrArg Value.bool ?_, s'.toExt (Sub.refl _)⟩
              rw [Bool.eq_iff_iff]
              simp only [instOk, fitsOk, hxl] at *
              simp only [Go.V.dsl, reduceCtorEq] at *
              omega
          · refine tNo rfl rfl rfl rfl (tNo rfl rfl rfl rfl (tNo rfl rfl rfl rfl (tQ rfl (qPickF rfl rfl) (tQ rfl (qMove rfl) (tNo rfl rfl rfl rfl (tNo rfl rfl rfl rfl (tNo rfl rfl rfl rfl (tNo rfl rfl rfl rfl (tQ rfl (qPickF rfl rfl) (tQ rfl (qAssign rfl) (tEnd (xThen (cRet (xRetBlock (xRetThen ?_)))))))))))))))
            refine xRet1 _ Tryd.results51 rfl fun w' s' => ⟨congrArg Value.bool ?_, s'.toExt (Sub.refl _)⟩
            rw [Bool.eq_iff_iff]
            simp only [instOk, fitsOk, hxl] at *
            simp only [Go.V.dsl, reduceCtorEq] at *
            omega
        · refine cSeq (cReg (tQ rfl (qEq rfl rfl) (tQ rfl (qAssign rfl) (tEnd (xThen ?_)))))
          refine cIf rfl (fun c48 => ?_) (fun c48 => ?_)
          · refine cSeq (cReg (tQ rfl (qFieldAddr Tryd.runUnderlying44 rfl Tryd.sizeOf3 rfl rfl rfl) (tQ rfl (qLd1M 0 Tryd.isAgg3 rfl rfl rfl) (tQ rfl (qMove rfl) (tQ rfl (qSub rfl rfl (w64 (by omega) (by omega))) (tCallQ rfl Tryd.call107 (first := []) (captured := []) rfl rfl (fun w' s' => within_) (tQ rfl (qMove rfl) ?_)))))))
            refine tCase 55 rfl (fun g55 => ?_) (fun g55 => ?_)
            · refine tGo rfl rfl (tQ rfl (qFieldAddr Tryd.runUnderlying44 rfl Tryd.sizeOf3 rfl rfl rfl) (tGo rfl rfl (tQ rfl (qLd1M 0 Tryd.isAgg3 rfl rfl rfl) (tGo rfl rfl (tQ rfl (qMove rfl) (tGo rfl rfl (tQ rfl (qSub rfl rfl (w64 (by omega) (by omega))) (tGo rfl rfl (tCallQ rfl Tryd.call107 (first := []) (captured := []) rfl rfl (fun w' s' => within_) (tQ rfl (qPickT rfl rfl) (tQ rfl (qMove rfl) ?_)))))))))))
              refine tCase 62 rfl (fun g62 => ?_) (fun g62 => ?_)
              · refine tGo rfl rfl (tQ rfl (qFieldAddr Tryd.runUnderlying44 rfl Tryd.sizeOf3 rfl rfl rfl) (tGo rfl rfl (tQ rfl (qLd1M 0 Tryd.isAgg3 rfl rfl rfl) (tGo rfl rfl (tQ rfl (qEq rfl rfl) (tQ rfl (qPickT rfl rfl) (tQ rfl (qAssign rfl) (tEnd (xThen (cRet (xRetBlock (xRetThen ?_))))))))))))
                refine xRet1 _ Tryd.results51 rfl fun w' s' => ⟨congrArg Value.bool ?_, s'.toExt (Sub.refl _)⟩
                rw [Bool.eq_iff_iff]
                simp only [instOk, fitsOk, hxl] at *
                simp only [Go.V.dsl, reduceCtorEq] at *
                omega
              · refine tNo rfl rfl rfl rfl (tNo rfl rfl rfl rfl (tNo rfl rfl rfl rfl (tQ rfl (qPickF rfl rfl) (tQ rfl (qAssign rfl) (tEnd (xThen (cRet (xRetBlock (xRetThen ?_)))))))))
                refine xRet1 _ Tryd.results51 rfl fun w' s' => ⟨congrArg Value.bool ?_, s'.toExt (Sub.refl _)⟩
                rw [Bool.eq_iff_iff]
                simp only [instOk, fitsOk, hxl] at *
                simp only [Go.V.dsl, reduceCtorEq] at *
                omega
            · refine tNo rfl rfl rfl rfl (tNo rfl rfl rfl rfl (tNo rfl rfl rfl rfl (tNo rfl rfl rfl rfl (tNo rfl rfl rfl rfl (tQ rfl (qPickF rfl rfl) (tQ rfl (qMove rfl) (tNo rfl rfl rfl rfl (tNo rfl rfl rfl rfl (tNo rfl rfl rfl rfl (tQ rfl (qPickF rfl rfl) (tQ rfl (qAssign rfl) ?_)))))))))))
              refine tEnd (xThen (cRet (xRetBlock (xRetThen ?_))))
              refine xRet1 _ Tryd.results51 rfl fun w' s' => ⟨congrArg Value.bool ?_, s'.toExt (Sub.refl _)⟩
              rw [Bool.eq_iff_iff]
              simp only [instOk, fitsOk, hxl] at *
              simp only [Go.V.dsl, reduceCtorEq] at *
              omega
          · refine cSeq (cReg (tQ rfl (qEq rfl rfl) (tQ rfl (qAssign rfl) (tEnd (xThen ?_)))))
            refine cIf rfl (fun c67 => ?_) (fun c67 => ?_)
            · refine cSeq (cReg (tQ rfl (qFieldAddr Tryd.runUnderlying44 rfl Tryd.sizeOf3 rfl rfl rfl) (tQ rfl (qLd1M 0 Tryd.isAgg3 rfl rfl rfl) (tQ rfl (qMove rfl) (tQ rfl (qSub rfl rfl (w64 (by omega) (by omega))) (tCallQ rfl Tryd.call107 (first := []) (captured := []) rfl rfl (fun w' s' => within_) (tQ rfl (qMove rfl) ?_)))))))
              refine tCase 74 rfl (fun g74 => ?_) (fun g74 => ?_)
              · refine tGo rfl rfl (tQ rfl (qFieldAddr Tryd.runUnderlying44 rfl Tryd.sizeOf3 rfl rfl rfl) (tGo rfl rfl (tQ rfl (qLd1M 0 Tryd.isAgg3 rfl rfl rfl) (tGo rfl rfl (tQ rfl (qMove rfl) (tGo rfl rfl (tQ rfl (qMul rfl rfl (w64 (by omega) (by omega))) (tGo rfl rfl (tQ rfl (qAdd rfl rfl (w64 (by omega) (by omega))) (tGo rfl rfl (tCallQ rfl Tryd.call107 (first := []) (captured := []) rfl rfl (fun w' s' => within_) ?_)))))))))))
                refine tQ rfl (qPickT rfl rfl) (tQ rfl (qAssign rfl) (tEnd (xThen (cRet (xRetBlock (xRetThen ?_))))))
                refine xRet1 _ Tryd.results51 rfl fun w' s' => ⟨congrArg Value.bool ?_, s'.toExt (Sub.refl _)⟩
                rw [Bool.eq_iff_iff]
                simp only [instOk, fitsOk, hxl] at *
                simp only [Go.V.dsl, reduceCtorEq] at *
                omega
              · refine tNo rfl rfl rfl rfl (tNo rfl rfl rfl rfl (tNo rfl rfl rfl rfl (tNo rfl rfl rfl rfl (tNo rfl rfl rfl rfl (tNo rfl rfl rfl rfl (tQ rfl (qPickF rfl rfl) (tQ rfl (qAssign rfl) (tEnd (xThen (cRet (xRetBlock (xRetThen ?_))))))))))))
                refine xRet1 _ Tryd.results51 rfl fun w' s' => ⟨congrArg Value.bool ?_, s'.toExt (Sub.refl _)⟩
                rw [Bool.eq_iff_iff]
                simp only [instOk, fitsOk, hxl] at *
                simp only [Go.V.dsl, reduceCtorEq] at *
                omega
            · refine cSeq (cReg (tQ rfl (qEq rfl rfl) (tQ rfl (qAssign rfl) (tEnd (xThen ?_)))))
              refine cIf rfl (fun c82 => ?_) (fun c82 => ?_)
              · refine cSeq (cReg (tQ rfl (qFieldAddr Tryd.runUnderlying44 rfl Tryd.sizeOf3 rfl rfl rfl) (tQ rfl (qLd1M 0 Tryd.isAgg3 rfl rfl rfl) (tQ rfl (qMove rfl) (tQ rfl (qSub rfl rfl (w64 (by omega) (by omega))) (tCallQ rfl Tryd.call107 (first := []) (captured := []) rfl rfl (fun w' s' => within_) (tQ rfl (qMove rfl) ?_)))))))
                refine tCase 89 rfl (fun g89 => ?_) (fun g89 => ?_)
                · refine tGo rfl rfl (tQ rfl (qFieldAddr Tryd.runUnderlying44 rfl Tryd.sizeOf3 rfl rfl rfl) (tGo rfl rfl (tQ rfl (qLd1M 0 Tryd.isAgg3 rfl rfl rfl) (tGo rfl rfl (tQ rfl (qMove rfl) (tGo rfl rfl (tCallQ rfl Tryd.call107 (first := []) (captured := []) rfl rfl (fun w' s' => within_) (tQ rfl (qPickT rfl rfl) (tQ rfl (qAssign rfl) (tEnd (xThen (cRet (xRetBlock (xRetThen ?_))))))))))))))
                  refine xRet1 _ Tryd.results51 rfl fun w' s' => ⟨congrArg Value.bool ?_, s'.toExt (Sub.refl _)⟩
                  rw [Bool.eq_iff_iff]
                  simp only [instOk, fitsOk, hxl] at *
                  simp only [Go.V.dsl, reduceCtorEq] at *
                  omega
                · refine tNo rfl rfl rfl rfl (tNo rfl rfl rfl rfl (tNo rfl rfl rfl rfl (tNo rfl rfl rfl rfl (tQ rfl (qPickF rfl rfl) (tQ rfl (qAssign rfl) (tEnd (xThen (cRet (xRetBlock (xRetThen ?_))))))))))
                  refine xRet1 _ Tryd.results51 rfl fun w' s' => ⟨congrArg Value.bool ?_, s'.toExt (Sub.refl _)⟩
                  rw [Bool.eq_iff_iff]
                  simp only [instOk, fitsOk, hxl] at *
                  simp only [Go.V.dsl, reduceCtorEq] at *
                  omega
              · refine cSeq (cSeq (cReg (tQ rfl (qEq rfl rfl) (tQ rfl (qAssign rfl) (tEnd (xThen ?_))))))
                refine cIf rfl (fun c95 => ?_) (fun c95 => ?_)
                · refine cSkip (xThen ?_)
                  refine cIf rfl (fun c95 => ?_) (fun c95 => ?_)
                  · refine cSeq (cReg (tQ rfl (qFieldAddr Tryd.runUnderlying44 rfl Tryd.sizeOf3 rfl rfl rfl) (tQ rfl (qLd1M 0 Tryd.isAgg3 rfl rfl rfl) (tQ rfl (qMove rfl) (tQ rfl (qSub rfl rfl (w64 (by omega) (by omega))) (tCallQ rfl Tryd.call107 (first := []) (captured := []) rfl rfl (fun w' s' => within_) (tQ rfl (qMove rfl) ?_)))))))
                    refine tCase 103 rfl (fun g103 => ?_) (fun g103 => ?_)
                    · refine tGo rfl rfl (tQ rfl (qFieldAddr Tryd.runUnderlying44 rfl Tryd.sizeOf3 rfl rfl rfl) (tGo rfl rfl (tQ rfl (qLd1M 0 Tryd.isAgg3 rfl rfl rfl) (tGo rfl rfl (tCallQ rfl Tryd.call107 (first := []) (captured := []) rfl rfl (fun w' s' => within_) (tQ rfl (qPickT rfl rfl) (tQ rfl (qAssign rfl) (tEnd (xThen (cRet (xRetBlock (xRetThen ?_))))))))))))
                      refine xRet1 _ Tryd.results51 rfl fun w' s' => ⟨congrArg Value.bool ?_, s'.toExt (Sub.refl _)⟩
                      rw [Bool.eq_iff_iff]
                      simp only [instOk, fitsOk, hxl] at *
                      simp only [Go.V.dsl, reduceCtorEq] at *
                      omega
                    · refine tNo rfl rfl rfl rfl (tNo rfl rfl rfl rfl (tNo rfl rfl rfl rfl (tQ rfl (qPickF rfl rfl) (tQ rfl (qAssign rfl) (tEnd (xThen (cRet (xRetBlock (xRetThen ?_)))))))))
                      refine xRet1 _ Tryd.results51 rfl fun w' s' => ⟨congrArg Value.bool ?_, s'.toExt (Sub.refl _)⟩
                      rw [Bool.eq_iff_iff]
                      simp only [instOk, fitsOk, hxl] at *
                      simp only [Go.V.dsl, reduceCtorEq] at *
                      omega
                  · refine cSeq (cReg (tQ rfl (qEq rfl rfl) (tQ rfl (qAssign rfl) (tEnd (xThen ?_)))))
                    refine cIf rfl (fun c108 => ?_) (fun c108 => ?_)
                    · refine cSeq (cReg (tQ rfl (qFieldAddr Tryd.runUnderlying44 rfl Tryd.sizeOf3 rfl rfl rfl) (tQ rfl (qLd1M 0 Tryd.isAgg3 rfl rfl rfl) (tQ rfl (qMove rfl) (tQ rfl (qSub rfl rfl (w64 (by omega) (by omega))) (tCallQ rfl Tryd.call107 (first := []) (captured := []) rfl rfl (fun w' s' => within_) (tQ rfl (qMove rfl) ?_)))))))
                      refine tCase 115 rfl (fun g115 => ?_) (fun g115 => ?_)
                      · refine tGo rfl rfl (tQ rfl (qFieldAddr Tryd.runUnderlying44 rfl Tryd.sizeOf3 rfl rfl rfl) (tGo rfl rfl (tQ rfl (qLd1M 0 Tryd.isAgg3 rfl rfl rfl) (tGo rfl rfl (tQ rfl (qEq rfl rfl) (tQ rfl (qPickT rfl rfl) (tQ rfl (qAssign rfl) (tEnd (xThen (cRet (xRetBlock (xRetThen ?_))))))))))))
                        refine xRet1 _ Tryd.results51 rfl fun w' s' => ⟨congrArg Value.bool ?_, s'.toExt (Sub.refl _)⟩
                        rw [Bool.eq_iff_iff]
                        simp only [instOk, fitsOk, hxl] at *
                        simp only [Go.V.dsl, reduceCtorEq] at *
                        omega
                      · refine tNo rfl rfl rfl rfl (tNo rfl rfl rfl rfl (tNo rfl rfl rfl rfl (tQ rfl (qPickF rfl rfl) (tQ rfl (qAssign rfl) (tEnd (xThen (cRet (xRetBlock (xRetThen ?_)))))))))
                        refine xRet1 _ Tryd.results51 rfl fun w' s' => ⟨congrArg Value.bool ?_, s'.toExt (Sub.refl _)⟩
                        rw [Bool.eq_iff_iff]
                        simp only [instOk, fitsOk, hxl] at *
                        simp only [Go.V.dsl, reduceCtorEq] at *
                        omega
                    · refine cSeq (cSeq (cReg (tQ rfl (qEq rfl rfl) (tQ rfl (qAssign rfl) (tEnd (xThen ?_))))))
                      refine cIf rfl (fun c120 => ?_) (fun c120 => ?_)
                      · refine cSkip (xThen ?_)
                        refine cIf rfl (fun c120 => ?_) (fun c120 => ?_)
                        · refine cSeq (cReg (tQ rfl (qFieldAddr Tryd.runUnderlying44 rfl Tryd.sizeOf3 rfl rfl rfl) (tQ rfl (qLd1M 0 Tryd.isAgg3 rfl rfl rfl) (tQ rfl (qEq rfl rfl) (tQ rfl (qMove rfl) ?_)))))
                          refine tCase 126 rfl (fun g126 => ?_) (fun g126 => ?_)
                          · refine tGo rfl rfl (tQ rfl (qFieldAddr Tryd.runUnderlying44 rfl Tryd.sizeOf3 rfl rfl rfl) (tGo rfl rfl (tQ rfl (qLd1M 0 Tryd.isAgg3 rfl rfl rfl) (tGo rfl rfl (tQ rfl (qEq rfl rfl) (tQ rfl (qPickT rfl rfl) (tQ rfl (qAssign rfl) (tEnd (xThen (cRet (xRetBlock (xRetThen ?_))))))))))))
                            refine xRet1 _ Tryd.results51 rfl fun w' s' => ⟨congrArg Value.bool ?_, s'.toExt (Sub.refl _)⟩
                            rw [Bool.eq_iff_iff]
                            simp only [instOk, fitsOk, hxl] at *
                            simp only [Go.V.dsl, reduceCtorEq] at *
                            omega
                          · refine tNo rfl rfl rfl rfl (tNo rfl rfl rfl rfl (tNo rfl rfl rfl rfl (tQ rfl (qPickF rfl rfl) (tQ rfl (qAssign rfl) (tEnd (xThen (cRet (xRetBlock (xRetThen ?_)))))))))
                            refine xRet1 _ Tryd.results51 rfl fun w' s' => ⟨congrArg Value.bool ?_, s'.toExt (Sub.refl _)⟩
                            rw [Bool.eq_iff_iff]
                            simp only [instOk, fitsOk, hxl] at *
                            simp only [Go.V.dsl, reduceCtorEq] at *
                            omega
                        · refine cSkip (xBlock (xThen (cSeq (cReg (tQ rfl (qAssign rfl) (tEnd (xThen (cRet ?_))))))))
                          refine xRet1 _ Tryd.results51 rfl fun w' s' => ⟨congrArg Value.bool ?_, s'.toExt (Sub.refl _)⟩
                          rw [Bool.eq_iff_iff]
                          simp only [instOk, fitsOk, hxl] at *
                          simp only [Go.V.dsl, reduceCtorEq] at *
                          omega
                      · refine cReg (tQ rfl (qEq rfl rfl) (tQ rfl (qAssign rfl) (tEnd (xThen ?_))))
                        refine cIf rfl (fun c120 => ?_) (fun c120 => ?_)
                        · refine cSeq (cReg (tQ rfl (qFieldAddr Tryd.runUnderlying44 rfl Tryd.sizeOf3 rfl rfl rfl) (tQ rfl (qLd1M 0 Tryd.isAgg3 rfl rfl rfl) (tQ rfl (qEq rfl rfl) (tQ rfl (qMove rfl) ?_)))))
                          refine tCase 126 rfl (fun g126 => ?_) (fun g126 => ?_)
                          · refine tGo rfl rfl (tQ rfl (qFieldAddr Tryd.runUnderlying44 rfl Tryd.sizeOf3 rfl rfl rfl) (tGo rfl rfl (tQ rfl (qLd1M 0 Tryd.isAgg3 rfl rfl rfl) (tGo rfl rfl (tQ rfl (qEq rfl rfl) (tQ rfl (qPickT rfl rfl) (tQ rfl (qAssign rfl) (tEnd (xThen (cRet (xRetBlock (xRetThen ?_))))))))))))
                            refine xRet1 _ Tryd.results51 rfl fun w' s' => ⟨congrArg Value.bool ?_, s'.toExt (Sub.refl _)⟩
                            rw [Bool.eq_iff_iff]
                            simp only [instOk, fitsOk, hxl] at *
                            simp only [Go.V.dsl, reduceCtorEq] at *
                            omega
                          · refine tNo rfl rfl rfl rfl (tNo rfl rfl rfl rfl (tNo rfl rfl rfl rfl (tQ rfl (qPickF rfl rfl) (tQ rfl (qAssign rfl) (tEnd (xThen (cRet (xRetBlock (xRetThen ?_)))))))))
                            refine xRet1 _ Tryd.results51 rfl fun w' s' => ⟨congrArg Value.bool ?_, s'.toExt (Sub.refl _)⟩
                            rw [Bool.eq_iff_iff]
                            simp only [instOk, fitsOk, hxl] at *
                            simp only [Go.V.dsl, reduceCtorEq] at *
                            omega
                        · refine cSkip (xBlock (xThen (cSeq (cReg (tQ rfl (qAssign rfl) (tEnd (xThen (cRet ?_))))))))
                          refine xRet1 _ Tryd.results51 rfl fun w' s' => ⟨congrArg Value.bool ?_, s'.toExt (Sub.refl _)⟩
                          rw [Bool.eq_iff_iff]
                          simp only [instOk, fitsOk, hxl] at *
                          simp only [Go.V.dsl, reduceCtorEq] at *
                          omega
                · refine cReg (tQ rfl (qEq rfl rfl) (tQ rfl (qAssign rfl) (tEnd (xThen ?_))))
                  refine cIf rfl (fun c95 => ?_) (fun c95 => ?_)
                  · refine cSeq (cReg (tQ rfl (qFieldAddr Tryd.runUnderlying44 rfl Tryd.sizeOf3 rfl rfl rfl) (tQ rfl (qLd1M 0 Tryd.isAgg3 rfl rfl rfl) (tQ rfl (qMove rfl) (tQ rfl (qSub rfl rfl (w64 (by omega) (by omega))) (tCallQ rfl Tryd.call107 (first := []) (captured := []) rfl rfl (fun w' s' => within_) (tQ rfl (qMove rfl) ?_)))))))
                    refine tCase 103 rfl (fun g103 => ?_) (fun g103 => ?_)
                    · refine tGo rfl rfl (tQ rfl (qFieldAddr Tryd.runUnderlying44 rfl Tryd.sizeOf3 rfl rfl rfl) (tGo rfl rfl (tQ rfl (qLd1M 0 Tryd.isAgg3 rfl rfl rfl) (tGo rfl rfl (tCallQ rfl Tryd.call107 (first := []) (captured := []) rfl rfl (fun w' s' => within_) (tQ rfl (qPickT rfl rfl) (tQ rfl (qAssign rfl) (tEnd (xThen (cRet (xRetBlock (xRetThen ?_))))))))))))
                      refine xRet1 _ Tryd.results51 rfl fun w' s' => ⟨congrArg Value.bool ?_, s'.toExt (Sub.refl _)⟩
                      rw [Bool.eq_iff_iff]
                      simp only [instOk, fitsOk, hxl] at *
                      simp only [Go.V.dsl, reduceCtorEq] at *
                      omega
                    · refine tNo rfl rfl rfl rfl (tNo rfl rfl rfl rfl (tNo rfl rfl rfl rfl (tQ rfl (qPickF rfl rfl) (tQ rfl (qAssign rfl) (tEnd (xThen (cRet (xRetBlock (xRetThen ?_)))))))))
                      refine xRet1 _ Tryd.results51 rfl fun w' s' => ⟨congrArg Value.bool ?_, s'.toExt (Sub.refl _)⟩
                      rw [Bool.eq_iff_iff]
                      simp only [instOk, fitsOk, hxl] at *
                      simp only [Go.V.dsl, reduceCtorEq] at *
                      omega
                  · refine cSeq (cReg (tQ rfl (qEq rfl rfl) (tQ rfl (qAssign rfl) (tEnd (xThen ?_)))))
                    refine cIf rfl (fun c108 => ?_) (fun c108 => ?_)
                    · refine cSeq (cReg (tQ rfl (qFieldAddr Tryd.runUnderlying44 rfl Tryd.sizeOf3 rfl rfl rfl) (tQ rfl (qLd1M 0 Tryd.isAgg3 rfl rfl rfl) (tQ rfl (qMove rfl) (tQ rfl (qSub rfl rfl (w64 (by omega) (by omega))) (tCallQ rfl Tryd.call107 (first := []) (captured := []) rfl rfl (fun w' s' => within_) (tQ rfl (qMove rfl) ?_)))))))
                      refine tCase 115 rfl (fun g115 => ?_) (fun g115 => ?_)
                      · refine tGo rfl rfl (tQ rfl (qFieldAddr Tryd.runUnderlying44 rfl Tryd.sizeOf3 rfl rfl rfl) (tGo rfl rfl (tQ rfl (qLd1M 0 Tryd.isAgg3 rfl rfl rfl) (tGo rfl rfl (tQ rfl (qEq rfl rfl) (tQ rfl (qPickT rfl rfl) (tQ rfl (qAssign rfl) (tEnd (xThen (cRet (xRetBlock (xRetThen ?_))))))))))))
                        refine xRet1 _ Tryd.results51 rfl fun w' s' => ⟨congrArg Value.bool ?_, s'.toExt (Sub.refl _)⟩
                        rw [Bool.eq_iff_iff]
                        simp only [instOk, fitsOk, hxl] at *
                        simp only [Go.V.dsl, reduceCtorEq] at *
                        omega
                      · refine tNo rfl rfl rfl rfl (tNo rfl rfl rfl rfl (tNo rfl rfl rfl rfl (tQ rfl (qPickF rfl rfl) (tQ rfl (qAssign rfl) (tEnd (xThen (cRet (xRetBlock (xRetThen ?_)))))))))
                        refine xRet1 _ Tryd.results51 rfl fun w' s' => ⟨congrArg Value.bool ?_, s'.toExt (Sub.refl _)⟩
                        rw [Bool.eq_iff_iff]
                        simp only [instOk, fitsOk, hxl] at *
                        simp only [Go.V.dsl, reduceCtorEq] at *
                        omega
                    · refine cSeq (cSeq (cReg (tQ rfl (qEq rfl rfl) (tQ rfl (qAssign rfl) (tEnd (xThen ?_))))))
                      refine cIf rfl (fun c120 => ?_) (fun c120 => ?_)
                      · refine cSkip (xThen ?_)
                        refine cIf rfl (fun c120 => ?_) (fun c120 => ?_)
                        · refine cSeq (cReg (tQ rfl (qFieldAddr Tryd.runUnderlying44 rfl Tryd.sizeOf3 rfl rfl rfl) (tQ rfl (qLd1M 0 Tryd.isAgg3 rfl rfl rfl) (tQ rfl (qEq rfl rfl) (tQ rfl (qMove rfl) ?_)))))
                          refine tCase 126 rfl (fun g126 => ?_) (fun g126 => ?_)
                          · refine tGo rfl rfl (tQ rfl (qFieldAddr Tryd.runUnderlying44 rfl Tryd.sizeOf3 rfl rfl rfl) (tGo rfl rfl (tQ rfl (qLd1M 0 Tryd.isAgg3 rfl rfl rfl) (tGo rfl rfl (tQ rfl (qEq rfl rfl) (tQ rfl (qPickT rfl rfl) (tQ rfl (qAssign rfl) (tEnd (xThen (cRet (xRetBlock (xRetThen ?_))))))))))))
                            refine xRet1 _ Tryd.results51 rfl fun w' s' => ⟨congrArg Value.bool ?_, s'.toExt (Sub.refl _)⟩
                            rw [Bool.eq_iff_iff]
                            simp only [instOk, fitsOk, hxl] at *
                            simp only [Go.V.dsl, reduceCtorEq] at *
                            omega
                          · refine tNo rfl rfl rfl rfl (tNo rfl rfl rfl rfl (tNo rfl rfl rfl rfl (tQ rfl (qPickF rfl rfl) (tQ rfl (qAssign rfl) (tEnd (xThen (cRet (xRetBlock (xRetThen ?_)))))))))
                            refine xRet1 _ Tryd.results51 rfl fun w' s' => ⟨congrArg Value.bool ?_, s'.toExt (Sub.refl _)⟩
                            rw [Bool.eq_iff_iff]
                            simp only [instOk, fitsOk, hxl] at *
                            simp only [Go.V.dsl, reduceCtorEq] at *
                            omega
                        · refine cSkip (xBlock (xThen (cSeq (cReg (tQ rfl (qAssign rfl) (tEnd (xThen (cRet ?_))))))))
                          refine xRet1 _ Tryd.results51 rfl fun w' s' => ⟨congrArg Value.bool ?_, s'.toExt (Sub.refl _)⟩
                          rw [Bool.eq_iff_iff]
                          simp only [instOk, fitsOk, hxl] at *
                          simp only [Go.V.dsl, reduceCtorEq] at *
                          omega
                      · refine cReg (tQ rfl (qEq rfl rfl) (tQ rfl (qAssign rfl) (tEnd (xThen ?_))))
                        refine cIf rfl (fun c120 => ?_) (fun c120 => ?_)
                        · refine cSeq (cReg (tQ rfl (qFieldAddr Tryd.runUnderlying44 rfl Tryd.sizeOf3 rfl rfl rfl) (tQ rfl (qLd1M 0 Tryd.isAgg3 rfl rfl rfl) (tQ rfl (qEq rfl rfl) (tQ rfl (qMove rfl) ?_)))))
                          refine tCase 126 rfl (fun g126 => ?_) (fun g126 => ?_)
                          · refine tGo rfl rfl (tQ rfl (qFieldAddr Tryd.runUnderlying44 rfl Tryd.sizeOf3 rfl rfl rfl) (tGo rfl rfl (tQ rfl (qLd1M 0 Tryd.isAgg3 rfl rfl rfl) (tGo rfl rfl (tQ rfl (qEq rfl rfl) (tQ rfl (qPickT rfl rfl) (tQ rfl (qAssign rfl) (tEnd (xThen (cRet (xRetBlock (xRetThen ?_))))))))))))
                            refine xRet1 _ Tryd.results51 rfl fun w' s' => ⟨congrArg Value.bool ?_, s'.toExt (Sub.refl _)⟩
                            rw [Bool.eq_iff_iff]
                            simp only [instOk, fitsOk, hxl] at *
                            simp only [Go.V.dsl, reduceCtorEq] at *
                            omega
                          · refine tNo rfl rfl rfl rfl (tNo rfl rfl rfl rfl (tNo rfl rfl rfl rfl (tQ rfl (qPickF rfl rfl) (tQ rfl (qAssign rfl) (tEnd (xThen (cRet (xRetBlock (xRetThen ?_)))))))))
                            refine xRet1 _ Tryd.results51 rfl fun w' s' => ⟨congrArg Value.bool ?_, s'.toExt (Sub.refl _)⟩
                            rw [Bool.eq_iff_iff]
                            simp only [instOk, fitsOk, hxl] at *
                            simp only [Go.V.dsl, reduceCtorEq] at *
                            omega
                        · refine cSkip (xBlock (xThen (cSeq (cReg (tQ rfl (qAssign rfl) (tEnd (xThen (cRet ?_))))))))
                          refine xRet1 _ Tryd.results51 rfl fun w' s' => ⟨congrArg Value.bool ?_, s'.toExt (Sub.refl _)⟩
                          rw [Bool.eq_iff_iff]
                          simp only [instOk, fitsOk, hxl] at *
                          simp only [Go.V.dsl, reduceCtorEq] at *
                          omega
  · refine tNo rfl rfl rfl rfl (tNo rfl rfl rfl rfl (tNo rfl rfl rfl rfl (tNo rfl rfl rfl rfl (tQ rfl (qPickF rfl rfl) (tEnd (xThen (cIfF rfl (cSkip (xThen (cSeq (cSeq (cReg (tQ rfl (qFieldAddr Tryd.runUnderlying44 rfl Tryd.sizeOf3 rfl rfl rfl) (tQ rfl (qLd1M 0 Tryd.isAgg3 rfl rfl rfl) (tQ rfl (qNe rfl rfl) (tQ rfl (qMove rfl) ?_))))))))))))))))
    refine tCase 23 rfl (fun g23 => ?_) (fun g23 => ?_)
    · refine tGo rfl rfl (tQ rfl (qFieldAddr Tryd.runUnderlying44 rfl Tryd.sizeOf3 rfl rfl rfl) (tGo rfl rfl (tQ rfl (qLd1M 0 Tryd.isAgg3 rfl rfl rfl) (tGo rfl rfl (tQ rfl (qNe rfl rfl) (tQ rfl (qPickT rfl rfl) (tEnd (xThen ?_))))))))
      refine cIf rfl (fun c27 => ?_) (fun c27 => ?_)
      · refine cSeq (cReg (tQ rfl (qAssign rfl) (tEnd (xThen (cRet (xRetThen ?_))))))
        refine xRet1 _ Tryd.results51 rfl fun w' s' => ⟨congrArg Value.bool ?_, s'.toExt (Sub.refl _)⟩
        rw [Bool.eq_iff_iff]
        simp only [instOk, fitsOk, hxl] at *
        simp only [Go.V.dsl, reduceCtorEq] at *
        omega
      · refine cSkip (xThen (cSeq (cSeq (cReg (tQ rfl (qFieldAddr Tryd.runUnderlying44 rfl Tryd.sizeOf3 rfl rfl rfl) (tQ rfl (qLd1M 0 Tryd.isAgg3 rfl rfl rfl) (tEnd (xThen (cBlock (cSeq (cReg (tQ rfl (qEq rfl rfl) (tQ rfl (qAssign rfl) (tEnd (xThen ?_)))))))))))))))
        refine cIf rfl (fun c30 => ?_) (fun c30 => ?_)
        · refine cSeq (cReg (tQ rfl (qFieldAddr Tryd.runUnderlying44 rfl Tryd.sizeOf3 rfl rfl rfl) (tQ rfl (qLd1M 0 Tryd.isAgg3 rfl rfl rfl) (tQ rfl (qMove rfl) (tQ rfl (qSub rfl rfl (w64 (by omega) (by omega))) (tCallQ rfl Tryd.call107 (first := []) (captured := []) rfl rfl (fun w' s' => within_) (tQ rfl (qMove rfl) ?_)))))))
          refine tCase 37 rfl (fun g37 => ?_) (fun g37 => ?_)
          · refine tGo rfl rfl (tQ rfl (qFieldAddr Tryd.runUnderlying44 rfl Tryd.sizeOf3 rfl rfl rfl) (tGo rfl rfl (tQ rfl (qLd1M 0 Tryd.isAgg3 rfl rfl rfl) (tGo rfl rfl (tQ rfl (qEq rfl rfl) (tQ rfl (qPickT rfl rfl) (tQ rfl (qMove rfl) ?_)))))))
            refine tCase 42 rfl (fun g42 => ?_) (fun g42 => ?_)
            · refine tGo rfl rfl (tQ rfl (qFieldAddr Tryd.runUnderlying44 rfl Tryd.sizeOf42 rfl rfl rfl) (tGo rfl rfl (tQ rfl (qLd1M 0 Tryd.isAgg42 rfl rfl rfl) (tGo rfl rfl (tQ rfl (qMove rfl) (tGo rfl rfl (tCallQ rfl Tryd.call108 (first := []) (captured := []) rfl rfl (fun w' s' => fits12 s'.sub hx hm) (tQ rfl (qPickT rfl rfl) (tQ rfl (qAssign rfl) (tEnd (xThen (cRet (xRetBlock (xRetThen ?_))))))))))))))
              refine xRet1 _ Tryd.results51 rfl fun w' s' => ⟨congrArg Value.bool ?_, s'.toExt (Sub.refl _)⟩
              rw [Bool.eq_iff_iff]
              simp only [instOk, fitsOk, hxl] at *
              simp only [Go.V.dsl, reduceCtorEq] at *
              omega
            · refine tNo rfl rfl rfl rfl (tNo rfl rfl rfl rfl (tNo rfl rfl rfl rfl (tNo rfl rfl rfl rfl (tQ rfl (qPickF rfl rfl) (tQ rfl (qAssign rfl) (tEnd (xThen (cRet (xRetBlock (xRetThen ?_))))))))))
              refine xRet1 _ Tryd.results51 rfl fun w' s' => ⟨congrArg Value.bool ?_, s'.toExt (Sub.refl _)⟩
              rw [Bool.eq_iff_iff]
              simp only [instOk, fitsOk, hxl] at *
              simp only [Go.V.dsl, reduceCtorEq] at *
              omega
          · refine tNo rfl rfl rfl rfl (tNo rfl rfl rfl rfl (tNo rfl rfl rfl rfl (tQ rfl (qPickF rfl rfl) (tQ rfl (qMove rfl) (tNo rfl rfl rfl rfl (tNo rfl rfl rfl rfl (tNo rfl rfl rfl rfl (tNo rfl rfl rfl rfl (tQ rfl (qPickF rfl rfl) (tQ rfl (qAssign rfl) (tEnd (xThen (cRet (xRetBlock (xRetThen ?_)))))))))))))))
            refine xRet1 _ Tryd.results51 rfl fun w' s' => ⟨congrArg Value.bool ?_, s'.toExt (Sub.refl _)⟩
            rw [Bool.eq_iff_iff]
            simp only [instOk, fitsOk, hxl] at *
            simp only [Go.V.dsl, reduceCtorEq] at *
            omega
        · refine cSeq (cReg (tQ rfl (qEq rfl rfl) (tQ rfl (qAssign rfl) (tEnd (xThen ?_)))))
          refine cIf rfl (fun c48 => ?_) (fun c48 => ?_)
          · refine cSeq (cReg (tQ rfl (qFieldAddr Tryd.runUnderlying44 rfl Tryd.sizeOf3 rfl rfl rfl) (tQ rfl (qLd1M 0 Tryd.isAgg3 rfl rfl rfl) (tQ rfl (qMove rfl) (tQ rfl (qSub rfl rfl (w64 (by omega) (by omega))) (tCallQ rfl Tryd.call107 (first := []) (captured := []) rfl rfl (fun w' s' => within_) (tQ rfl (qMove rfl) ?_)))))))
            refine tCase 55 rfl (fun g55 => ?_) (fun g55 => ?_)
            · refine tGo rfl rfl (tQ rfl (qFieldAddr Tryd.runUnderlying44 rfl Tryd.sizeOf3 rfl rfl rfl) (tGo rfl rfl (tQ rfl (qLd1M 0 Tryd.isAgg3 rfl rfl rfl) (tGo rfl rfl (tQ rfl (qMove rfl) (tGo rfl rfl (tQ rfl (qSub rfl rfl (w64 (by omega) (by omega))) (tGo rfl rfl (tCallQ rfl Tryd.call107 (first := []) (captured := []) rfl rfl (fun w' s' => within_) (tQ rfl (qPickT rfl rfl) (tQ rfl (qMove rfl) ?_)))))))))))
              refine tCase 62 rfl (fun g62 => ?_) (fun g62 => ?_)
              · refine tGo rfl rfl (tQ rfl (qFieldAddr Tryd.runUnderlying44 rfl Tryd.sizeOf3 rfl rfl rfl) (tGo rfl rfl (tQ rfl (qLd1M 0 Tryd.isAgg3 rfl rfl rfl) (tGo rfl rfl (tQ rfl (qEq rfl rfl) (tQ rfl (qPickT rfl rfl) (tQ rfl (qAssign rfl) (tEnd (xThen (cRet (xRetBlock (xRetThen ?_))))))))))))
                refine xRet1 _ Tryd.results51 rfl fun w' s' => ⟨congrArg Value.bool ?_, s'.toExt (Sub.refl _)⟩
                rw [Bool.eq_iff_iff]
                simp only [instOk, fitsOk, hxl] at *
                simp only [Go.V.dsl, reduceCtorEq] at *
                omega
              · refine tNo rfl rfl rfl rfl (tNo rfl rfl rfl rfl (tNo rfl rfl rfl rfl (tQ rfl (qPickF rfl rfl) (tQ rfl (qAssign rfl) (tEnd (xThen (cRet (xRetBlock (xRetThen ?_)))))))))
                refine xRet1 _ Tryd.results51 rfl fun w' s' => ⟨congrArg Value.bool ?_, s'.toExt (Sub.refl _)⟩
                rw [Bool.eq_iff_iff]
                simp only [instOk, fitsOk, hxl] at *
                simp only [Go.V.dsl, reduceCtorEq] at *
                omega
            · refine tNo rfl rfl rfl rfl (tNo rfl rfl rfl rfl (tNo rfl rfl rfl rfl (tNo rfl rfl rfl rfl (tNo rfl rfl rfl rfl (tQ rfl (qPickF rfl rfl) (tQ rfl (qMove rfl) (tNo rfl rfl rfl rfl (tNo rfl rfl rfl rfl (tNo rfl rfl rfl rfl (tQ rfl (qPickF rfl rfl) (tQ rfl (qAssign rfl) ?_)))))))))))
              refine tEnd (xThen (cRet (xRetBlock (xRetThen ?_))))
              refine xRet1 _ Tryd.results51 rfl fun w' s' => ⟨congrArg Value.bool ?_, s'.toExt (Sub.refl _)⟩
              rw [Bool.eq_iff_iff]
              simp only [instOk, fitsOk, hxl] at *
              simp only [Go.V.dsl, reduceCtorEq] at *
              omega
          · refine cSeq (cReg (tQ rfl (qEq rfl rfl) (tQ rfl (qAssign rfl) (tEnd (xThen ?_)))))
            refine cIf rfl (fun c67 => ?_) (fun c67 => ?_)
            · refine cSeq (cReg (tQ rfl (qFieldAddr Tryd.runUnderlying44 rfl Tryd.sizeOf3 rfl rfl rfl) (tQ rfl (qLd1M 0 Tryd.isAgg3 rfl rfl rfl) (tQ rfl (qMove rfl) (tQ rfl (qSub rfl rfl (w64 (by omega) (by omega))) (tCallQ rfl Tryd.call107 (first := []) (captured := []) rfl rfl (fun w' s' => within_) (tQ rfl (qMove rfl) ?_)))))))
              refine tCase 74 rfl (fun g74 => ?_) (fun g74 => ?_)
              · refine tGo rfl rfl (tQ rfl (qFieldAddr Tryd.runUnderlying44 rfl Tryd.sizeOf3 rfl rfl rfl) (tGo rfl rfl (tQ rfl (qLd1M 0 Tryd.isAgg3 rfl rfl rfl) (tGo rfl rfl (tQ rfl (qMove rfl) (tGo rfl rfl (tQ rfl (qMul rfl rfl (w64 (by omega) (by omega))) (tGo rfl rfl (tQ rfl (qAdd rfl rfl (w64 (by omega) (by omega))) (tGo rfl rfl (tCallQ rfl Tryd.call107 (first := []) (captured := []) rfl rfl (fun w' s' => within_) ?_)))))))))))
                refine tQ rfl (qPickT rfl rfl) (tQ rfl (qAssign rfl) (tEnd (xThen (cRet (xRetBlock (xRetThen ?_))))))
                refine xRet1 _ Tryd.results51 rfl fun w' s' => ⟨congrArg Value.bool ?_, s'.toExt (Sub.refl _)⟩
                rw [Bool.eq_iff_iff]
                simp only [instOk, fitsOk, hxl] at *
                simp only [Go.V.dsl, reduceCtorEq] at *
                omega
              · refine tNo rfl rfl rfl rfl (tNo rfl rfl rfl rfl (tNo rfl rfl rfl rfl (tNo rfl rfl rfl rfl (tNo rfl rfl rfl rfl (tNo rfl rfl rfl rfl (tQ rfl (qPickF rfl rfl) (tQ rfl (qAssign rfl) (tEnd (xThen (cRet (xRetBlock (xRetThen ?_))))))))))))
                refine xRet1 _ Tryd.results51 rfl fun w' s' => ⟨congrArg Value.bool ?_, s'.toExt (Sub.refl _)⟩
                rw [Bool.eq_iff_iff]
                simp only [instOk, fitsOk, hxl] at *
                simp only [Go.V.dsl, reduceCtorEq] at *
                omega
            · refine cSeq (cReg (tQ rfl (qEq rfl rfl) (tQ rfl (qAssign rfl) (tEnd (xThen ?_)))))
              refine cIf rfl (fun c82 => ?_) (fun c82 => ?_)
              · refine cSeq (cReg (tQ rfl (qFieldAddr Tryd.runUnderlying44 rfl Tryd.sizeOf3 rfl rfl rfl) (tQ rfl (qLd1M 0 Tryd.isAgg3 rfl rfl rfl) (tQ rfl (qMove rfl) (tQ rfl (qSub rfl rfl (w64 (by omega) (by omega))) (tCallQ rfl Tryd.call107 (first := []) (captured := []) rfl rfl (fun w' s' => within_) (tQ rfl (qMove rfl) ?_)))))))
                refine tCase 89 rfl (fun g89 => ?_) (fun g89 => ?_)
                · refine tGo rfl rfl (tQ rfl (qFieldAddr Tryd.runUnderlying44 rfl Tryd.sizeOf3 rfl rfl rfl) (tGo rfl rfl (tQ rfl (qLd1M 0 Tryd.isAgg3 rfl rfl rfl) (tGo rfl rfl (tQ rfl (qMove rfl) (tGo rfl rfl (tCallQ rfl Tryd.call107 (first := []) (captured := []) rfl rfl (fun w' s' => within_) (tQ rfl (qPickT rfl rfl) (tQ rfl (qAssign rfl) (tEnd (xThen (cRet (xRetBlock (xRetThen ?_))))))))))))))
                  refine xRet1 _ Tryd.results51 rfl fun w' s' => ⟨congrArg Value.bool ?_, s'.toExt (Sub.refl _)⟩
                  rw [Bool.eq_iff_iff]
                  simp only [instOk, fitsOk, hxl] at *
                  simp only [Go.V.dsl, reduceCtorEq] at *
                  omega
                · refine tNo rfl rfl rfl rfl (tNo rfl rfl rfl rfl (tNo rfl rfl rfl rfl (tNo rfl rfl rfl rfl (tQ rfl (qPickF rfl rfl) (tQ rfl (qAssign rfl) (tEnd (xThen (cRet (xRetBlock (xRetThen ?_))))))))))
                  refine xRet1 _ Tryd.results51 rfl fun w' s' => ⟨congrArg Value.bool ?_, s'.toExt (Sub.refl _)⟩
                  rw [Bool.eq_iff_iff]
                  simp only [instOk, fitsOk, hxl] at *
                  simp only [Go.V.dsl, reduceCtorEq] at *
                  omega
              · refine cSeq (cSeq (cReg (tQ rfl (qEq rfl rfl) (tQ rfl (qAssign rfl) (tEnd (xThen ?_))))))
                refine cIf rfl (fun c95 => ?_) (fun c95 => ?_)
                · refine cSkip (xThen ?_)
                  refine cIf rfl (fun c95 => ?_) (fun c95 => ?_)
                  · refine cSeq (cReg (tQ rfl (qFieldAddr Tryd.runUnderlying44 rfl Tryd.sizeOf3 rfl rfl rfl) (tQ rfl (qLd1M 0 Tryd.isAgg3 rfl rfl rfl) (tQ rfl (qMove rfl) (tQ rfl (qSub rfl rfl (w64 (by omega) (by omega))) (tCallQ rfl Tryd.call107 (first := []) (captured := []) rfl rfl (fun w' s' => within_) (tQ rfl (qMove rfl) ?_)))))))
                    refine tCase 103 rfl (fun g103 => ?_) (fun g103 => ?_)
                    · refine tGo rfl rfl (tQ rfl (qFieldAddr Tryd.runUnderlying44 rfl Tryd.sizeOf3 rfl rfl rfl) (tGo rfl rfl (tQ rfl (qLd1M 0 Tryd.isAgg3 rfl rfl rfl) (tGo rfl rfl (tCallQ rfl Tryd.call107 (first := []) (captured := []) rfl rfl (fun w' s' => within_) (tQ rfl (qPickT rfl rfl) (tQ rfl (qAssign rfl) (tEnd (xThen (cRet (xRetBlock (xRetThen ?_))))))))))))
                      refine xRet1 _ Tryd.results51 rfl fun w' s' => ⟨congrArg Value.bool ?_, s'.toExt (Sub.refl _)⟩
                      rw [Bool.eq_iff_iff]
                      simp only [instOk, fitsOk, hxl] at *
                      simp only [Go.V.dsl, reduceCtorEq] at *
                      omega
                    · refine tNo rfl rfl rfl rfl (tNo rfl rfl rfl rfl (tNo rfl rfl rfl rfl (tQ rfl (qPickF rfl rfl) (tQ rfl (qAssign rfl) (tEnd (xThen (cRet (xRetBlock (xRetThen ?_)))))))))
                      refine xRet1 _ Tryd.results51 rfl fun w' s' => ⟨congrArg Value.bool ?_, s'.toExt (Sub.refl _)⟩
                      rw [Bool.eq_iff_iff]
                      simp only [instOk, fitsOk, hxl] at *
                      simp only [Go.V.dsl, reduceCtorEq] at *
                      omega
                  · refine cSeq (cReg (tQ rfl (qEq rfl rfl) (tQ rfl (qAssign rfl) (tEnd (xThen ?_)))))
                    refine cIf rfl (fun c108 => ?_) (fun c108 => ?_)
                    · refine cSeq (cReg (tQ rfl (qFieldAddr Tryd.runUnderlying44 rfl Tryd.sizeOf3 rfl rfl rfl) (tQ rfl (qLd1M 0 Tryd.isAgg3 rfl rfl rfl) (tQ rfl (qMove rfl) (tQ rfl (qSub rfl rfl (w64 (by omega) (by omega))) (tCallQ rfl Tryd.call107 (first := []) (captured := []) rfl rfl (fun w' s' => within_) (tQ rfl (qMove rfl) ?_)))))))
                      refine tCase 115 rfl (fun g115 => ?_) (fun g115 => ?_)
                      · refine tGo rfl rfl (tQ rfl (qFieldAddr Tryd.runUnderlying44 rfl Tryd.sizeOf3 rfl rfl rfl) (tGo rfl rfl (tQ rfl (qLd1M 0 Tryd.isAgg3 rfl rfl rfl) (tGo rfl rfl (tQ rfl (qEq rfl rfl) (tQ rfl (qPickT rfl rfl) (tQ rfl (qAssign rfl) (tEnd (xThen (cRet (xRetBlock (xRetThen ?_))))))))))))
                        refine xRet1 _ Tryd.results51 rfl fun w' s' => ⟨congrArg Value.bool ?_, s'.toExt (Sub.refl _)⟩
                        rw [Bool.eq_iff_iff]
                        simp only [instOk, fitsOk, hxl] at *
                        simp only [Go.V.dsl, reduceCtorEq] at *
                        omega
                      · refine tNo rfl rfl rfl rfl (tNo rfl rfl rfl rfl (tNo rfl rfl rfl rfl (tQ rfl (qPickF rfl rfl) (tQ rfl (qAssign rfl) (tEnd (xThen (cRet (xRetBlock (xRetThen ?_)))))))))
                        refine xRet1 _ Tryd.results51 rfl fun w' s' => ⟨congrArg Value.bool ?_, s'.toExt (Sub.refl _)⟩
                        rw [Bool.eq_iff_iff]
                        simp only [instOk, fitsOk, hxl] at *
                        simp only [Go.V.dsl, reduceCtorEq] at *
                        omega
                    · refine cSeq (cSeq (cReg (tQ rfl (qEq rfl rfl) (tQ rfl (qAssign rfl) (tEnd (xThen ?_))))))
                      refine cIf rfl (fun c120 => ?_) (fun c120 => ?_)
                      · refine cSkip (xThen ?_)
                        refine cIf rfl (fun c120 => ?_) (fun c120 => ?_)
                        · refine cSeq (cReg (tQ rfl (qFieldAddr Tryd.runUnderlying44 rfl Tryd.sizeOf3 rfl rfl rfl) (tQ rfl (qLd1M 0 Tryd.isAgg3 rfl rfl rfl) (tQ rfl (qEq rfl rfl) (tQ rfl (qMove rfl) ?_)))))
                          refine tCase 126 rfl (fun g126 => ?_) (fun g126 => ?_)
                          · refine tGo rfl rfl (tQ rfl (qFieldAddr Tryd.runUnderlying44 rfl Tryd.sizeOf3 rfl rfl rfl) (tGo rfl rfl (tQ rfl (qLd1M 0 Tryd.isAgg3 rfl rfl rfl) (tGo rfl rfl (tQ rfl (qEq rfl rfl) (tQ rfl (qPickT rfl rfl) (tQ rfl (qAssign rfl) (tEnd (xThen (cRet (xRetBlock (xRetThen ?_))))))))))))
                            refine xRet1 _ Tryd.results51 rfl fun w' s' => ⟨congrArg Value.bool ?_, s'.toExt (Sub.refl _)⟩
                            rw [Bool.eq_iff_iff]
                            simp only [instOk, fitsOk, hxl] at *
                            simp only [Go.V.dsl, reduceCtorEq] at *
                            omega
                          · refine tNo rfl rfl rfl rfl (tNo rfl rfl rfl rfl (tNo rfl rfl rfl rfl (tQ rfl (qPickF rfl rfl) (tQ rfl (qAssign rfl) (tEnd (xThen (cRet (xRetBlock (xRetThen ?_)))))))))
                            refine xRet1 _ Tryd.results51 rfl fun w' s' => ⟨congrArg Value.bool ?_, s'.toExt (Sub.refl _)⟩
                            rw [Bool.eq_iff_iff]
                            simp only [instOk, fitsOk, hxl] at *
                            simp only [Go.V.dsl, reduceCtorEq] at *
                            omega
                        · refine cSkip (xBlock (xThen (cSeq (cReg (tQ rfl (qAssign rfl) (tEnd (xThen (cRet ?_))))))))
                          refine xRet1 _ Tryd.results51 rfl fun w' s' => ⟨congrArg Value.bool ?_, s'.toExt (Sub.refl _)⟩
                          rw [Bool.eq_iff_iff]
                          simp only [instOk, fitsOk, hxl] at *
                          simp only [Go.V.dsl, reduceCtorEq] at *
                          omega
                      · refine cReg (tQ rfl (qEq rfl rfl) (tQ rfl (qAssign rfl) (tEnd (xThen ?_))))
                        refine cIf rfl (fun c120 => ?_) (fun c120 => ?_)
                        · refine cSeq (cReg (tQ rfl (qFieldAddr Tryd.runUnderlying44 rfl Tryd.sizeOf3 rfl rfl rfl) (tQ rfl (qLd1M 0 Tryd.isAgg3 rfl rfl rfl) (tQ rfl (qEq rfl rfl) (tQ rfl (qMove rfl) ?_)))))
                          refine tCase 126 rfl (fun g126 => ?_) (fun g126 => ?_)
                          · refine tGo rfl rfl (tQ rfl (qFieldAddr Tryd.runUnderlying44 rfl Tryd.sizeOf3 rfl rfl rfl) (tGo rfl rfl (tQ rfl (qLd1M 0 Tryd.isAgg3 rfl rfl rfl) (tGo rfl rfl (tQ rfl (qEq rfl rfl) (tQ rfl (qPickT rfl rfl) (tQ rfl (qAssign rfl) (tEnd (xThen (cRet (xRetBlock (xRetThen ?_))))))))))))
                            refine xRet1 _ Tryd.results51 rfl fun w' s' => ⟨congrArg Value.bool ?_, s'.toExt (Sub.refl _)⟩
                            rw [Bool.eq_iff_iff]
                            simp only [instOk, fitsOk, hxl] at *
                            simp only [Go.V.dsl, reduceCtorEq] at *
                            omega
                          · refine tNo rfl rfl rfl rfl (tNo rfl rfl rfl rfl (tNo rfl rfl rfl rfl (tQ rfl (qPickF rfl rfl) (tQ rfl (qAssign rfl) (tEnd (xThen (cRet (xRetBlock (xRetThen ?_)))))))))
                            refine xRet1 _ Tryd.results51 rfl fun w' s' => ⟨congrArg Value.bool ?_, s'.toExt (Sub.refl _)⟩
                            rw [Bool.eq_iff_iff]
                            simp only [instOk, fitsOk, hxl] at *
                            simp only [Go.V.dsl, reduceCtorEq] at *
                            omega
                        · refine cSkip (xBlock (xThen (cSeq (cReg (tQ rfl (qAssign rfl) (tEnd (xThen (cRet ?_))))))))
                          refine xRet1 _ Tryd.results51 rfl fun w' s' => ⟨congrArg Value.bool ?_, s'.toExt (Sub.refl _)⟩
                          rw [Bool.eq_iff_iff]
                          simp only [instOk, fitsOk, hxl] at *
                          simp only [Go.V.dsl, reduceCtorEq] at *
                          omega
                · refine cReg (tQ rfl (qEq rfl rfl) (tQ rfl (qAssign rfl) (tEnd (xThen ?_))))
                  refine cIf rfl (fun c95 => ?_) (fun c95 => ?_)
                  · refine cSeq (cReg (tQ rfl (qFieldAddr Tryd.runUnderlying44 rfl Tryd.sizeOf3 rfl rfl rfl) (tQ rfl (qLd1M 0 Tryd.isAgg3 rfl rfl rfl) (tQ rfl (qMove rfl) (tQ rfl (qSub rfl rfl (w64 (by omega) (by omega))) (tCallQ rfl Tryd.call107 (first := []) (captured := []) rfl rfl (fun w' s' => within_) (tQ rfl (qMove rfl) ?_)))))))
                    refine tCase 103 rfl (fun g103 => ?_) (fun g103 => ?_)
                    · refine tGo rfl rfl (tQ rfl (qFieldAddr Tryd.runUnderlying44 rfl Tryd.sizeOf3 rfl rfl rfl) (tGo rfl rfl (tQ rfl (qLd1M 0 Tryd.isAgg3 rfl rfl rfl) (tGo rfl rfl (tCallQ rfl Tryd.call107 (first := []) (captured := []) rfl rfl (fun w' s' => within_) (tQ rfl (qPickT rfl rfl) (tQ rfl (qAssign rfl) (tEnd (xThen (cRet (xRetBlock (xRetThen ?_))))))))))))
                      refine xRet1 _ Tryd.results51 rfl fun w' s' => ⟨congrArg Value.bool ?_, s'.toExt (Sub.refl _)⟩
                      rw [Bool.eq_iff_iff]
                      simp only [instOk, fitsOk, hxl] at *
                      simp only [Go.V.dsl, reduceCtorEq] at *
                      omega
                    · refine tNo rfl rfl rfl rfl (tNo rfl rfl rfl rfl (tNo rfl rfl rfl rfl (tQ rfl (qPickF rfl rfl) (tQ rfl (qAssign rfl) (tEnd (xThen (cRet (xRetBlock (xRetThen ?_)))))))))
                      refine xRet1 _ Tryd.results51 rfl fun w' s' => ⟨congrArg Value.bool ?_, s'.toExt (Sub.refl _)⟩
                      rw [Bool.eq_iff_iff]
                      simp only [instOk, fitsOk, hxl] at *
                      simp only [Go.V.dsl, reduceCtorEq] at *
                      omega
                  · refine cSeq (cReg (tQ rfl (qEq rfl rfl) (tQ rfl (qAssign rfl) (tEnd (xThen ?_)))))
                    refine cIf rfl (fun c108 => ?_) (fun c108 => ?_)
                    · refine cSeq (cReg (tQ rfl (qFieldAddr Tryd.runUnderlying44 rfl Tryd.sizeOf3 rfl rfl rfl) (tQ rfl (qLd1M 0 Tryd.isAgg3 rfl rfl rfl) (tQ rfl (qMove rfl) (tQ rfl (qSub rfl rfl (w64 (by omega) (by omega))) (tCallQ rfl Tryd.call107 (first := []) (captured := []) rfl rfl (fun w' s' => within_) (tQ rfl (qMove rfl) ?_)))))))
                      refine tCase 115 rfl (fun g115 => ?_) (fun g115 => ?_)
                      · refine tGo rfl rfl (tQ rfl (qFieldAddr Tryd.runUnderlying44 rfl Tryd.sizeOf3 rfl rfl rfl) (tGo rfl rfl (tQ rfl (qLd1M 0 Tryd.isAgg3 rfl rfl rfl) (tGo rfl rfl (tQ rfl (qEq rfl rfl) (tQ rfl (qPickT rfl rfl) (tQ rfl (qAssign rfl) (tEnd (xThen (cRet (xRetBlock (xRetThen ?_))))))))))))
                        refine xRet1 _ Tryd.results51 rfl fun w' s' => ⟨congrArg Value.bool ?_, s'.toExt (Sub.refl _)⟩
                        rw [Bool.eq_iff_iff]
                        simp only [instOk, fitsOk, hxl] at *
                        simp only [Go.V.dsl, reduceCtorEq] at *
                        omega
                      · refine tNo rfl rfl rfl rfl (tNo rfl rfl rfl rfl (tNo rfl rfl rfl rfl (tQ rfl (qPickF rfl rfl) (tQ rfl (qAssign rfl) (tEnd (xThen (cRet (xRetBlock (xRetThen ?_)))))))))
                        refine xRet1 _ Tryd.results51 rfl fun w' s' => ⟨congrArg Value.bool ?_, s'.toExt (Sub.refl _)⟩
                        rw [Bool.eq_iff_iff]
                        simp only [instOk, fitsOk, hxl] at *
                        simp only [Go.V.dsl, reduceCtorEq] at *
                        omega
                    · refine cSeq (cSeq (cReg (tQ rfl (qEq rfl rfl) (tQ rfl (qAssign rfl) (tEnd (xThen ?_))))))
                      refine cIf rfl (fun c120 => ?_) (fun c120 => ?_)
                      · refine cSkip (xThen ?_)
                        refine cIf rfl (fun c120 => ?_) (fun c120 => ?_)
                        · refine cSeq (cReg (tQ rfl (qFieldAddr Tryd.runUnderlying44 rfl Tryd.sizeOf3 rfl rfl rfl) (tQ rfl (qLd1M 0 Tryd.isAgg3 rfl rfl rfl) (tQ rfl (qEq rfl rfl) (tQ rfl (qMove rfl) ?_)))))
                          refine tCase 126 rfl (fun g126 => ?_) (fun g126 => ?_)
                          · refine tGo rfl rfl (tQ rfl (qFieldAddr Tryd.runUnderlying44 rfl Tryd.sizeOf3 rfl rfl rfl) (tGo rfl rfl (tQ rfl (qLd1M 0 Tryd.isAgg3 rfl rfl rfl) (tGo rfl rfl (tQ rfl (qEq rfl rfl) (tQ rfl (qPickT rfl rfl) (tQ rfl (qAssign rfl) (tEnd (xThen (cRet (xRetBlock (xRetThen ?_))))))))))))
                            refine xRet1 _ Tryd.results51 rfl fun w' s' => ⟨congrArg Value.bool ?_, s'.toExt (Sub.refl _)⟩
                            rw [Bool.eq_iff_iff]
                            simp only [instOk, fitsOk, hxl] at *
                            simp only [Go.V.dsl, reduceCtorEq] at *
                            omega
                          · refine tNo rfl rfl rfl rfl (tNo rfl rfl rfl rfl (tNo rfl rfl rfl rfl (tQ rfl (qPickF rfl rfl) (tQ rfl (qAssign rfl) (tEnd (xThen (cRet (xRetBlock (xRetThen ?_)))))))))
                            refine xRet1 _ Tryd.results51 rfl fun w' s' => ⟨congrArg Value.bool ?_, s'.toExt (Sub.refl _)⟩
                            rw [Bool.eq_iff_iff]
                            simp only [instOk, fitsOk, hxl] at *
                            simp only [Go.V.dsl, reduceCtorEq] at *
                            omega
                        · refine cSkip (xBlock (xThen (cSeq (cReg (tQ rfl (qAssign rfl) (tEnd (xThen (cRet ?_))))))))
                          refine xRet1 _ Tryd.results51 rfl fun w' s' => ⟨congrArg Value.bool ?_, s'.toExt (Sub.refl _)⟩
                          rw [Bool.eq_iff_iff]
                          simp only [instOk, fitsOk, hxl] at *
                          simp only [Go.V.dsl, reduceCtorEq] at *
                          omega
                      · refine cReg (tQ rfl (qEq rfl rfl) (tQ rfl (qAssign rfl) (tEnd (xThen ?_))))
                        refine cIf rfl (fun c120 => ?_) (fun c120 => ?_)
                        · refine cSeq (cReg (tQ rfl (qFieldAddr Tryd.runUnderlying44 rfl Tryd.sizeOf3 rfl rfl rfl) (tQ rfl (qLd1M 0 Tryd.isAgg3 rfl rfl rfl) (tQ rfl (qEq rfl rfl) (tQ rfl (qMove rfl) ?_)))))
                          refine tCase 126 rfl (fun g126 => ?_) (fun g126 => ?_)
                          · refine tGo rfl rfl (tQ rfl (qFieldAddr Tryd.runUnderlying44 rfl Tryd.sizeOf3 rfl rfl rfl) (tGo rfl rfl (tQ rfl (qLd1M 0 Tryd.isAgg3 rfl rfl rfl) (tGo rfl rfl (tQ rfl (qEq rfl rfl) (tQ rfl (qPickT rfl rfl) (tQ rfl (qAssign rfl) (tEnd (xThen (cRet (xRetBlock (xRetThen ?_))))))))))))
                            refine xRet1 _ Tryd.results51 rfl fun w' s' => ⟨congrArg Value.bool ?_, s'.toExt (Sub.refl _)⟩
                            rw [Bool.eq_iff_iff]
                            simp only [instOk, fitsOk, hxl] at *
                            simp only [Go.V.dsl, reduceCtorEq] at *
                            omega
                          · refine tNo rfl rfl rfl rfl (tNo rfl rfl rfl rfl (tNo rfl rfl rfl rfl (tQ rfl (qPickF rfl rfl) (tQ rfl (qAssign rfl) (tEnd (xThen (cRet (xRetBlock (xRetThen ?_)))))))))
                            refine xRet1 _ Tryd.results51 rfl fun w' s' => ⟨congrArg Value.bool ?_, s'.toExt (Sub.refl _)⟩
                            rw [Bool.eq_iff_iff]
                            simp only [instOk, fitsOk, hxl] at *
                            simp only [Go.V.dsl, reduceCtorEq] at *
                            omega
                        · refine cSkip (xBlock (xThen (cSeq (cReg (tQ rfl (qAssign rfl) (tEnd (xThen (cRet ?_))))))))
                          refine xRet1 _ Tryd.results51 rfl fun w' s' => ⟨congrArg Value.bool ?_, s'.toExt (Sub.refl _)⟩
                          rw [Bool.eq_iff_iff]
                          simp only [instOk, fitsOk, hxl] at *
                          simp only [Go.V.dsl, reduceCtorEq] at *
                          omega
    · refine tNo rfl rfl rfl rfl (tNo rfl rfl rfl rfl (tNo rfl rfl rfl rfl (tQ rfl (qPickF rfl rfl) (tEnd (xThen (cIfF rfl (cSkip (xThen (cSeq (cSeq (cReg (tQ rfl (qFieldAddr Tryd.runUnderlying44 rfl Tryd.sizeOf3 rfl rfl rfl) (tQ rfl (qLd1M 0 Tryd.isAgg3 rfl rfl rfl) (tEnd (xThen (cBlock (cSeq (cReg (tQ rfl (qEq rfl rfl) (tQ rfl (qAssign rfl) ?_))))))))))))))))))))
      refine tEnd (xThen ?_)
      refine cIf rfl (fun c30 => ?_) (fun c30 => ?_)
      · refine cSeq (cReg (tQ rfl (qFieldAddr Tryd.runUnderlying44 rfl Tryd.sizeOf3 rfl rfl rfl) (tQ rfl (qLd1M 0 Tryd.isAgg3 rfl rfl rfl) (tQ rfl (qMove rfl) (tQ rfl (qSub rfl rfl (w64 (by omega) (by omega))) (tCallQ rfl Tryd.call107 (first := []) (captured := []) rfl rfl (fun w' s' => within_) (tQ rfl (qMove rfl) ?_)))))))
        refine tCase 37 rfl (fun g37 => ?_) (fun g37 => ?_)
        · refine tGo rfl rfl (tQ rfl (qFieldAddr Tryd.runUnderlying44 rfl Tryd.sizeOf3 rfl rfl rfl) (tGo rfl rfl (tQ rfl (qLd1M 0 Tryd.isAgg3 rfl rfl rfl) (tGo rfl rfl (tQ rfl (qEq rfl rfl) (tQ rfl (qPickT rfl rfl) (tQ rfl (qMove rfl) ?_)))))))
          refine tCase 42 rfl (fun g42 => ?_) (fun g42 => ?_)
          · refine tGo rfl rfl (tQ rfl (qFieldAddr Tryd.runUnderlying44 rfl Tryd.sizeOf42 rfl rfl rfl) (tGo rfl rfl (tQ rfl (qLd1M 0 Tryd.isAgg42 rfl rfl rfl) (tGo rfl rfl (tQ rfl (qMove rfl) (tGo rfl rfl (tCallQ rfl Tryd.call108 (first := []) (captured := []) rfl rfl (fun w' s' => fits12 s'.sub hx hm) (tQ rfl (qPickT rfl rfl) (tQ rfl (qAssign rfl) (tEnd (xThen (cRet (xRetBlock (xRetThen ?_))))))))))))))
            refine xRet1 _ Tryd.results51 rfl fun w' s' => ⟨congrArg Value.bool ?_, s'.toExt (Sub.refl _)⟩
            rw [Bool.eq_iff_iff]
            simp only [instOk, fitsOk, hxl] at *
            simp only [Go.V.dsl, reduceCtorEq] at *
            omega
          · refine tNo rfl rfl rfl rfl (tNo rfl rfl rfl rfl (tNo rfl rfl rfl rfl (tNo rfl rfl rfl rfl (tQ rfl (qPickF rfl rfl) (tQ rfl (qAssign rfl) (tEnd (xThen (cRet (xRetBlock (xRetThen ?_))))))))))
            refine xRet1 _ Tryd.results51 rfl fun w' s' => ⟨congrArg Value.bool ?_, s'.toExt (Sub.refl _)⟩
            rw [Bool.eq_iff_iff]
            simp only [instOk, fitsOk, hxl] at *
            simp only [Go.V.dsl, reduceCtorEq] at *
            omega
        · refine tNo rfl rfl rfl rfl (tNo rfl rfl rfl rfl (tNo rfl rfl rfl rfl (tQ rfl (qPickF rfl rfl) (tQ rfl (qMove rfl) (tNo rfl rfl rfl rfl (tNo rfl rfl rfl rfl (tNo rfl rfl rfl rfl (tNo rfl rfl rfl rfl (tQ rfl (qPickF rfl rfl) (tQ rfl (qAssign rfl) (tEnd (xThen (cRet (xRetBlock (xRetThen ?_)))))))))))))))
          refine xRet1 _ Tryd.results51 rfl fun w' s' => ⟨congrArg Value.bool ?_, s'.toExt (Sub.refl _)⟩
          rw [Bool.eq_iff_iff]
          simp only [instOk, fitsOk, hxl] at *
          simp only [Go.V.dsl, reduceCtorEq] at *
          omega
      · refine cSeq (cReg (tQ rfl (qEq rfl rfl) (tQ rfl (qAssign rfl) (tEnd (xThen ?_)))))
        refine cIf rfl (fun c48 => ?_) (fun c48 => ?_)
        · refine cSeq (cReg (tQ rfl (qFieldAddr Tryd.runUnderlying44 rfl Tryd.sizeOf3 rfl rfl rfl) (tQ rfl (qLd1M 0 Tryd.isAgg3 rfl rfl rfl) (tQ rfl (qMove rfl) (tQ rfl (qSub rfl rfl (w64 (by omega) (by omega))) (tCallQ rfl Tryd.call107 (first := []) (captured := []) rfl rfl (fun w' s' => within_) (tQ rfl (qMove rfl) ?_)))))))
          refine tCase 55 rfl (fun g55 => ?_) (fun g55 => ?_)
          · refine tGo rfl rfl (tQ rfl (qFieldAddr Tryd.runUnderlying44 rfl Tryd.sizeOf3 rfl rfl rfl) (tGo rfl rfl (tQ rfl (qLd1M 0 Tryd.isAgg3 rfl rfl rfl) (tGo rfl rfl (tQ rfl (qMove rfl) (tGo rfl rfl (tQ rfl (qSub rfl rfl (w64 (by omega) (by omega))) (tGo rfl rfl (tCallQ rfl Tryd.call107 (first := []) (captured := []) rfl rfl (fun w' s' => within_) (tQ rfl (qPickT rfl rfl) (tQ rfl (qMove rfl) ?_)))))))))))
            refine tCase 62 rfl (fun g62 => ?_) (fun g62 => ?_)
            · refine tGo rfl rfl (tQ rfl (qFieldAddr Tryd.runUnderlying44 rfl Tryd.sizeOf3 rfl rfl rfl) (tGo rfl rfl (tQ rfl (qLd1M 0 Tryd.isAgg3 rfl rfl rfl) (tGo rfl rfl (tQ rfl (qEq rfl rfl) (tQ rfl (qPickT rfl rfl) (tQ rfl (qAssign rfl) (tEnd (xThen (cRet (xRetBlock (xRetThen ?_))))))))))))
              refine xRet1 _ Tryd.results51 rfl fun w' s' => ⟨congrArg Value.bool ?_, s'.toExt (Sub.refl _)⟩
              rw [Bool.eq_iff_iff]
              simp only [instOk, fitsOk, hxl] at *
              simp only [Go.V.dsl, reduceCtorEq] at *
              omega
            · refine tNo rfl rfl rfl rfl (tNo rfl rfl rfl rfl (tNo rfl rfl rfl rfl (tQ rfl (qPickF rfl rfl) (tQ rfl (qAssign rfl) (tEnd (xThen (cRet (xRetBlock (xRetThen ?_)))))))))
              refine xRet1 _ Tryd.results51 rfl fun w' s' => ⟨congrArg Value.bool ?_, s'.toExt (Sub.refl _)⟩
              rw [Bool.eq_iff_iff]
              simp only [instOk, fitsOk, hxl] at *
              simp only [Go.V.dsl, reduceCtorEq] at *
              omega
          · refine tNo rfl rfl rfl rfl (tNo rfl rfl rfl rfl (tNo rfl rfl rfl rfl (tNo rfl rfl rfl rfl (tNo rfl rfl rfl rfl (tQ rfl (qPickF rfl rfl) (tQ rfl (qMove rfl) (tNo rfl rfl rfl rfl (tNo rfl rfl rfl rfl (tNo rfl rfl rfl rfl (tQ rfl (qPickF rfl rfl) (tQ rfl (qAssign rfl) ?_)))))))))))
            refine tEnd (xThen (cRet (xRetBlock (xRetThen ?_))))
            refine xRet1 _ Tryd.results51 rfl fun w' s' => ⟨congrArg Value.bool ?_, s'.toExt (Sub.refl _)⟩
            rw [Bool.eq_iff_iff]
            simp only [instOk, fitsOk, hxl] at *
            simp only [Go.V.dsl, reduceCtorEq] at *
            omega
        · refine cSeq (cReg (tQ rfl (qEq rfl rfl) (tQ rfl (qAssign rfl) (tEnd (xThen ?_)))))
          refine cIf rfl (fun c67 => ?_) (fun c67 => ?_)
          · refine cSeq (cReg (tQ rfl (qFieldAddr Tryd.runUnderlying44 rfl Tryd.sizeOf3 rfl rfl rfl) (tQ rfl (qLd1M 0 Tryd.isAgg3 rfl rfl rfl) (tQ rfl (qMove rfl) (tQ rfl (qSub rfl rfl (w64 (by omega) (by omega))) (tCallQ rfl Tryd.call107 (first := []) (captured := []) rfl rfl (fun w' s' => within_) (tQ rfl (qMove rfl) ?_)))))))
            refine tCase 74 rfl (fun g74 => ?_) (fun g74 => ?_)
            · refine tGo rfl rfl (tQ rfl (qFieldAddr Tryd.runUnderlying44 rfl Tryd.sizeOf3 rfl rfl rfl) (tGo rfl rfl (tQ rfl (qLd1M 0 Tryd.isAgg3 rfl rfl rfl) (tGo rfl rfl (tQ rfl (qMove rfl) (tGo rfl rfl (tQ rfl (qMul rfl rfl (w64 (by omega) (by omega))) (tGo rfl rfl (tQ rfl (qAdd rfl rfl (w64 (by omega) (by omega))) (tGo rfl rfl (tCallQ rfl Tryd.call107 (first := []) (captured := []) rfl rfl (fun w' s' => within_) ?_)))))))))))
              refine tQ rfl (qPickT rfl rfl) (tQ rfl (qAssign rfl) (tEnd (xThen (cRet (xRetBlock (xRetThen ?_))))))
              refine xRet1 _ Tryd.results51 rfl fun w' s' => ⟨congrArg Value.bool ?_, s'.toExt (Sub.refl _)⟩
              rw [Bool.eq_iff_iff]
              simp only [instOk, fitsOk, hxl] at *
              simp only [Go.V.dsl, reduceCtorEq] at *
              omega
            · refine tNo rfl rfl rfl rfl (tNo rfl rfl rfl rfl (tNo rfl rfl rfl rfl (tNo rfl rfl rfl rfl (tNo rfl rfl rfl rfl (tNo rfl rfl rfl rfl (tQ rfl (qPickF rfl rfl) (tQ rfl (qAssign rfl) (tEnd (xThen (cRet (xRetBlock (xRetThen ?_))))))))))))
              refine xRet1 _ Tryd.results51 rfl fun w' s' => ⟨congrArg Value.bool ?_, s'.toExt (Sub.refl _)⟩
              rw [Bool.eq_iff_iff]
              simp only [instOk, fitsOk, hxl] at *
              simp only [Go.V.dsl, reduceCtorEq] at *
              omega
          · refine cSeq (cReg (tQ rfl (qEq rfl rfl) (tQ rfl (qAssign rfl) (tEnd (xThen ?_)))))
            refine cIf rfl (fun c82 => ?_) (fun c82 => ?_)
            · refine cSeq (cReg (tQ rfl (qFieldAddr Tryd.runUnderlying44 rfl Tryd.sizeOf3 rfl rfl rfl) (tQ rfl (qLd1M 0 Tryd.isAgg3 rfl rfl rfl) (tQ rfl (qMove rfl) (tQ rfl (qSub rfl rfl (w64 (by omega) (by omega))) (tCallQ rfl Tryd.call107 (first := []) (captured := []) rfl rfl (fun w' s' => within_) (tQ rfl (qMove rfl) ?_)))))))
              refine tCase 89 rfl (fun g89 => ?_) (fun g89 => ?_)
              · refine tGo rfl rfl (tQ rfl (qFieldAddr Tryd.runUnderlying44 rfl Tryd.sizeOf3 rfl rfl rfl) (tGo rfl rfl (tQ rfl (qLd1M 0 Tryd.isAgg3 rfl rfl rfl) (tGo rfl rfl (tQ rfl (qMove rfl) (tGo rfl rfl (tCallQ rfl Tryd.call107 (first := []) (captured := []) rfl rfl (fun w' s' => within_) (tQ rfl (qPickT rfl rfl) (tQ rfl (qAssign rfl) (tEnd (xThen (cRet (xRetBlock (xRetThen ?_))))))))))))))
                refine xRet1 _ Tryd.results51 rfl fun w' s' => ⟨congrArg Value.bool ?_, s'.toExt (Sub.refl _)⟩
                rw [Bool.eq_iff_iff]
                simp only [instOk, fitsOk, hxl] at *
                simp only [Go.V.dsl, reduceCtorEq] at *
                omega
              · refine tNo rfl rfl rfl rfl (tNo rfl rfl rfl rfl (tNo rfl rfl rfl rfl (tNo rfl rfl rfl rfl (tQ rfl (qPickF rfl rfl) (tQ rfl (qAssign rfl) (tEnd (xThen (cRet (xRetBlock (xRetThen ?_))))))))))
                refine xRet1 _ Tryd.results51 rfl fun w' s' => ⟨congrArg Value.bool ?_, s'.toExt (Sub.refl _)⟩
                rw [Bool.eq_iff_iff]
                simp only [instOk, fitsOk, hxl] at *
                simp only [Go.V.dsl, reduceCtorEq] at *
                omega
            · refine cSeq (cSeq (cReg (tQ rfl (qEq rfl rfl) (tQ rfl (qAssign rfl) (tEnd (xThen ?_))))))
              refine cIf rfl (fun c95 => ?_) (fun c95 => ?_)
              · refine cSkip (xThen ?_)
                refine cIf rfl (fun c95 => ?_) (fun c95 => ?_)
                · refine cSeq (cReg (tQ rfl (qFieldAddr Tryd.runUnderlying44 rfl Tryd.sizeOf3 rfl rfl rfl) (tQ rfl (qLd1M 0 Tryd.isAgg3 rfl rfl rfl) (tQ rfl (qMove rfl) (tQ rfl (qSub rfl rfl (w64 (by omega) (by omega))) (tCallQ rfl Tryd.call107 (first := []) (captured := []) rfl rfl (fun w' s' => within_) (tQ rfl (qMove rfl) ?_)))))))
                  refine tCase 103 rfl (fun g103 => ?_) (fun g103 => ?_)
                  · refine tGo rfl rfl (tQ rfl (qFieldAddr Tryd.runUnderlying44 rfl Tryd.sizeOf3 rfl rfl rfl) (tGo rfl rfl (tQ rfl (qLd1M 0 Tryd.isAgg3 rfl rfl rfl) (tGo rfl rfl (tCallQ rfl Tryd.call107 (first := []) (captured := []) rfl rfl (fun w' s' => within_) (tQ rfl (qPickT rfl rfl) (tQ rfl (qAssign rfl) (tEnd (xThen (cRet (xRetBlock (xRetThen ?_))))))))))))
                    refine xRet1 _ Tryd.results51 rfl fun w' s' => ⟨congrArg Value.bool ?_, s'.toExt (Sub.refl _)⟩
                    rw [Bool.eq_iff_iff]
                    simp only [instOk, fitsOk, hxl] at *
                    simp only [Go.V.dsl, reduceCtorEq] at *
                    omega
                  · refine tNo rfl rfl rfl rfl (tNo rfl rfl rfl rfl (tNo rfl rfl rfl rfl (tQ rfl (qPickF rfl rfl) (tQ rfl (qAssign rfl) (tEnd (xThen (cRet (xRetBlock (xRetThen ?_)))))))))
                    refine xRet1 _ Tryd.results51 rfl fun w' s' => ⟨congrArg Value.bool ?_, s'.toExt (Sub.refl _)⟩
                    rw [Bool.eq_iff_iff]
                    simp only [instOk, fitsOk, hxl] at *
                    simp only [Go.V.dsl, reduceCtorEq] at *
                    omega
                · refine cSeq (cReg (tQ rfl (qEq rfl rfl) (tQ rfl (qAssign rfl) (tEnd (xThen ?_)))))
                  refine cIf rfl (fun c108 => ?_) (fun c108 => ?_)
                  · refine cSeq (cReg (tQ rfl (qFieldAddr Tryd.runUnderlying44 rfl Tryd.sizeOf3 rfl rfl rfl) (tQ rfl (qLd1M 0 Tryd.isAgg3 rfl rfl rfl) (tQ rfl (qMove rfl) (tQ rfl (qSub rfl rfl (w64 (by omega) (by omega))) (tCallQ rfl Tryd.call107 (first := []) (captured := []) rfl rfl (fun w' s' => within_) (tQ rfl (qMove rfl) ?_)))))))
                    refine tCase 115 rfl (fun g115 => ?_) (fun g115 => ?_)
                    · refine tGo rfl rfl (tQ rfl (qFieldAddr Tryd.runUnderlying44 rfl Tryd.sizeOf3 rfl rfl rfl) (tGo rfl rfl (tQ rfl (qLd1M 0 Tryd.isAgg3 rfl rfl rfl) (tGo rfl rfl (tQ rfl (qEq rfl rfl) (tQ rfl (qPickT rfl rfl) (tQ rfl (qAssign rfl) (tEnd (xThen (cRet (xRetBlock (xRetThen ?_))))))))))))
                      refine xRet1 _ Tryd.results51 rfl fun w' s' => ⟨congrArg Value.bool ?_, s'.toExt (Sub.refl _)⟩
                      rw [Bool.eq_iff_iff]
                      simp only [instOk, fitsOk, hxl] at *
                      simp only [Go.V.dsl, reduceCtorEq] at *
                      omega
                    · refine tNo rfl rfl rfl rfl (tNo rfl rfl rfl rfl (tNo rfl rfl rfl rfl (tQ rfl (qPickF rfl rfl) (tQ rfl (qAssign rfl) (tEnd (xThen (cRet (xRetBlock (xRetThen ?_)))))))))
                      refine xRet1 _ Tryd.results51 rfl fun w' s' => ⟨congrArg Value.bool ?_, s'.toExt (Sub.refl _)⟩
                      rw [Bool.eq_iff_iff]
                      simp only [instOk, fitsOk, hxl] at *
                      simp only [Go.V.dsl, reduceCtorEq] at *
                      omega
                  · refine cSeq (cSeq (cReg (tQ rfl (qEq rfl rfl) (tQ rfl (qAssign rfl) (tEnd (xThen ?_))))))
                    refine cIf rfl (fun c120 => ?_) (fun c120 => ?_)
                    · refine cSkip (xThen ?_)
                      refine cIf rfl (fun c120 => ?_) (fun c120 => ?_)
                      · refine cSeq (cReg (tQ rfl (qFieldAddr Tryd.runUnderlying44 rfl Tryd.sizeOf3 rfl rfl rfl) (tQ rfl (qLd1M 0 Tryd.isAgg3 rfl rfl rfl) (tQ rfl (qEq rfl rfl) (tQ rfl (qMove rfl) ?_)))))
                        refine tCase 126 rfl (fun g126 => ?_) (fun g126 => ?_)
                        · refine tGo rfl rfl (tQ rfl (qFieldAddr Tryd.runUnderlying44 rfl Tryd.sizeOf3 rfl rfl rfl) (tGo rfl rfl (tQ rfl (qLd1M 0 Tryd.isAgg3 rfl rfl rfl) (tGo rfl rfl (tQ rfl (qEq rfl rfl) (tQ rfl (qPickT rfl rfl) (tQ rfl (qAssign rfl) (tEnd (xThen (cRet (xRetBlock (xRetThen ?_))))))))))))
                          refine xRet1 _ Tryd.results51 rfl fun w' s' => ⟨congrArg Value.bool ?_, s'.toExt (Sub.refl _)⟩
                          rw [Bool.eq_iff_iff]
                          simp only [instOk, fitsOk, hxl] at *
                          simp only [Go.V.dsl, reduceCtorEq] at *
                          omega
                        · refine tNo rfl rfl rfl rfl (tNo rfl rfl rfl rfl (tNo rfl rfl rfl rfl (tQ rfl (qPickF rfl rfl) (tQ rfl (qAssign rfl) (tEnd (xThen (cRet (xRetBlock (xRetThen ?_)))))))))
                          refine xRet1 _ Tryd.results51 rfl fun w' s' => ⟨congrArg Value.bool ?_, s'.toExt (Sub.refl _)⟩
                          rw [Bool.eq_iff_iff]
                          simp only [instOk, fitsOk, hxl] at *
                          simp only [Go.V.dsl, reduceCtorEq] at *
                          omega
                      · refine cSkip (xBlock (xThen (cSeq (cReg (tQ rfl (qAssign rfl) (tEnd (xThen (cRet ?_))))))))
                        refine xRet1 _ Tryd.results51 rfl fun w' s' => ⟨congrArg Value.bool ?_, s'.toExt (Sub.refl _)⟩
                        rw [Bool.eq_iff_iff]
                        simp only [instOk, fitsOk, hxl] at *
                        simp only [Go.V.dsl, reduceCtorEq] at *
                        omega
                    · refine cReg (tQ rfl (qEq rfl rfl) (tQ rfl (qAssign rfl) (tEnd (xThen ?_))))
                      refine cIf rfl (fun c120 => ?_) (fun c120 => ?_)
                      · refine cSeq (cReg (tQ rfl (qFieldAddr Tryd.runUnderlying44 rfl Tryd.sizeOf3 rfl rfl rfl) (tQ rfl (qLd1M 0 Tryd.isAgg3 rfl rfl rfl) (tQ rfl (qEq rfl rfl) (tQ rfl (qMove rfl) ?_)))))
                        refine tCase 126 rfl (fun g126 => ?_) (fun g126 => ?_)
                        · refine tGo rfl rfl (tQ rfl (qFieldAddr Tryd.runUnderlying44 rfl Tryd.sizeOf3 rfl rfl rfl) (tGo rfl rfl (tQ rfl (qLd1M 0 Tryd.isAgg3 rfl rfl rfl) (tGo rfl rfl (tQ rfl (qEq rfl rfl) (tQ rfl (qPickT rfl rfl) (tQ rfl (qAssign rfl) (tEnd (xThen (cRet (xRetBlock (xRetThen ?_))))))))))))
                          refine xRet1 _ Tryd.results51 rfl fun w' s' => ⟨congrArg Value.bool ?_, s'.toExt (Sub.refl _)⟩
                          rw [Bool.eq_iff_iff]
                          simp only [instOk, fitsOk, hxl] at *
                          simp only [Go.V.dsl, reduceCtorEq] at *
                          omega
                        · refine tNo rfl rfl rfl rfl (tNo rfl rfl rfl rfl (tNo rfl rfl rfl rfl (tQ rfl (qPickF rfl rfl) (tQ rfl (qAssign rfl) (tEnd (xThen (cRet (xRetBlock (xRetThen ?_)))))))))
                          refine xRet1 _ Tryd.results51 rfl fun w' s' => ⟨congrArg Value.bool ?_, s'.toExt (Sub.refl _)⟩
                          rw [Bool.eq_iff_iff]
                          simp only [instOk, fitsOk, hxl] at *
                          simp only [Go.V.dsl, reduceCtorEq] at *
                          omega
                      · refine cSkip (xBlock (xThen (cSeq (cReg (tQ rfl (qAssign rfl) (tEnd (xThen (cRet ?_))))))))
                        refine xRet1 _ Tryd.results51 rfl fun w' s' => ⟨congrArg Value.bool ?_, s'.toExt (Sub.refl _)⟩
                        rw [Bool.eq_iff_iff]
                        simp only [instOk, fitsOk, hxl] at *
                        simp only [Go.V.dsl, reduceCtorEq] at *
                        omega
              · refine cReg (tQ rfl (qEq rfl rfl) (tQ rfl (qAssign rfl) (tEnd (xThen ?_))))
                refine cIf rfl (fun c95 => ?_) (fun c95 => ?_)
                · refine cSeq (cReg (tQ rfl (qFieldAddr Tryd.runUnderlying44 rfl Tryd.sizeOf3 rfl rfl rfl) (tQ rfl (qLd1M 0 Tryd.isAgg3 rfl rfl rfl) (tQ rfl (qMove rfl) (tQ rfl (qSub rfl rfl (w64 (by omega) (by omega))) (tCallQ rfl Tryd.call107 (first := []) (captured := []) rfl rfl (fun w' s' => within_) (tQ rfl (qMove rfl) ?_)))))))
                  refine tCase 103 rfl (fun g103 => ?_) (fun g103 => ?_)
                  · refine tGo rfl rfl (tQ rfl (qFieldAddr Tryd.runUnderlying44 rfl Tryd.sizeOf3 rfl rfl rfl) (tGo rfl rfl (tQ rfl (qLd1M 0 Tryd.isAgg3 rfl rfl rfl) (tGo rfl rfl (tCallQ rfl Tryd.call107 (first := []) (captured := []) rfl rfl (fun w' s' => within_) (tQ rfl (qPickT rfl rfl) (tQ rfl (qAssign rfl) (tEnd (xThen (cRet (xRetBlock (xRetThen ?_))))))))))))
                    refine xRet1 _ Tryd.results51 rfl fun w' s' => ⟨congrArg Value.bool ?_, s'.toExt (Sub.refl _)⟩
                    rw [Bool.eq_iff_iff]
                    simp only [instOk, fitsOk, hxl] at *
                    simp only [Go.V.dsl, reduceCtorEq] at *
                    omega
                  · refine tNo rfl rfl rfl rfl (tNo rfl rfl rfl rfl (tNo rfl rfl rfl rfl (tQ rfl (qPickF rfl rfl) (tQ rfl (qAssign rfl) (tEnd (xThen (cRet (xRetBlock (xRetThen ?_)))))))))
                    refine xRet1 _ Tryd.results51 rfl fun w' s' => ⟨congrArg Value.bool ?_, s'.toExt (Sub.refl _)⟩
                    rw [Bool.eq_iff_iff]
                    simp only [instOk, fitsOk, hxl] at *
                    simp only [Go.V.dsl, reduceCtorEq] at *
                    omega
                · refine cSeq (cReg (tQ rfl (qEq rfl rfl) (tQ rfl (qAssign rfl) (tEnd (xThen ?_)))))
                  refine cIf rfl (fun c108 => ?_) (fun c108 => ?_)
                  · refine cSeq (cReg (tQ rfl (qFieldAddr Tryd.runUnderlying44 rfl Tryd.sizeOf3 rfl rfl rfl) (tQ rfl (qLd1M 0 Tryd.isAgg3 rfl rfl rfl) (tQ rfl (qMove rfl) (tQ rfl (qSub rfl rfl (w64 (by omega) (by omega))) (tCallQ rfl Tryd.call107 (first := []) (captured := []) rfl rfl (fun w' s' => within_) (tQ rfl (qMove rfl) ?_)))))))
                    refine tCase 115 rfl (fun g115 => ?_) (fun g115 => ?_)
                    · refine tGo rfl rfl (tQ rfl (qFieldAddr Tryd.runUnderlying44 rfl Tryd.sizeOf3 rfl rfl rfl) (tGo rfl rfl (tQ rfl (qLd1M 0 Tryd.isAgg3 rfl rfl rfl) (tGo rfl rfl (tQ rfl (qEq rfl rfl) (tQ rfl (qPickT rfl rfl) (tQ rfl (qAssign rfl) (tEnd (xThen (cRet (xRetBlock (xRetThen ?_))))))))))))
                      refine xRet1 _ Tryd.results51 rfl fun w' s' => ⟨congrArg Value.bool ?_, s'.toExt (Sub.refl _)⟩
                      rw [Bool.eq_iff_iff]
                      simp only [instOk, fitsOk, hxl] at *
                      simp only [Go.V.dsl, reduceCtorEq] at *
                      omega
                    · refine tNo rfl rfl rfl rfl (tNo rfl rfl rfl rfl (tNo rfl rfl rfl rfl (tQ rfl (qPickF rfl rfl) (tQ rfl (qAssign rfl) (tEnd (xThen (cRet (xRetBlock (xRetThen ?_)))))))))
                      refine xRet1 _ Tryd.results51 rfl fun w' s' => ⟨congrArg Value.bool ?_, s'.toExt (Sub.refl _)⟩
                      rw [Bool.eq_iff_iff]
                      simp only [instOk, fitsOk, hxl] at *
                      simp only [Go.V.dsl, reduceCtorEq] at *
                      omega
                  · refine cSeq (cSeq (cReg (tQ rfl (qEq rfl rfl) (tQ rfl (qAssign rfl) (tEnd (xThen ?_))))))
                    refine cIf rfl (fun c120 => ?_) (fun c120 => ?_)
                    · refine cSkip (xThen ?_)
                      refine cIf rfl (fun c120 => ?_) (fun c120 => ?_)
                      · refine cSeq (cReg (tQ rfl (qFieldAddr Tryd.runUnderlying44 rfl Tryd.sizeOf3 rfl rfl rfl) (tQ rfl (qLd1M 0 Tryd.isAgg3 rfl rfl rfl) (tQ rfl (qEq rfl rfl) (tQ rfl (qMove rfl) ?_)))))
                        refine tCase 126 rfl (fun g126 => ?_) (fun g126 => ?_)
                        · refine tGo rfl rfl (tQ rfl (qFieldAddr Tryd.runUnderlying44 rfl Tryd.sizeOf3 rfl rfl rfl) (tGo rfl rfl (tQ rfl (qLd1M 0 Tryd.isAgg3 rfl rfl rfl) (tGo rfl rfl (tQ rfl (qEq rfl rfl) (tQ rfl (qPickT rfl rfl) (tQ rfl (qAssign rfl) (tEnd (xThen (cRet (xRetBlock (xRetThen ?_))))))))))))
                          refine xRet1 _ Tryd.results51 rfl fun w' s' => ⟨congrArg Value.bool ?_, s'.toExt (Sub.refl _)⟩
                          rw [Bool.eq_iff_iff]
                          simp only [instOk, fitsOk, hxl] at *
                          simp only [Go.V.dsl, reduceCtorEq] at *
                          omega
                        · refine tNo rfl rfl rfl rfl (tNo rfl rfl rfl rfl (tNo rfl rfl rfl rfl (tQ rfl (qPickF rfl rfl) (tQ rfl (qAssign rfl) (tEnd (xThen (cRet (xRetBlock (xRetThen ?_)))))))))
                          refine xRet1 _ Tryd.results51 rfl fun w' s' => ⟨congrArg Value.bool ?_, s'.toExt (Sub.refl _)⟩
                          rw [Bool.eq_iff_iff]
                          simp only [instOk, fitsOk, hxl] at *
                          simp only [Go.V.dsl, reduceCtorEq] at *
                          omega
                      · refine cSkip (xBlock (xThen (cSeq (cReg (tQ rfl (qAssign rfl) (tEnd (xThen (cRet ?_))))))))
                        refine xRet1 _ Tryd.results51 rfl fun w' s' => ⟨congrArg Value.bool ?_, s'.toExt (Sub.refl _)⟩
                        rw [Bool.eq_iff_iff]
                        simp only [instOk, fitsOk, hxl] at *
                        simp only [Go.V.dsl, reduceCtorEq] at *
                        omega
                    · refine cReg (tQ rfl (qEq rfl rfl) (tQ rfl (qAssign rfl) (tEnd (xThen ?_))))
                      refine cIf rfl (fun c120 => ?_) (fun c120 => ?_)
                      · refine cSeq (cReg (tQ rfl (qFieldAddr Tryd.runUnderlying44 rfl Tryd.sizeOf3 rfl rfl rfl) (tQ rfl (qLd1M 0 Tryd.isAgg3 rfl rfl rfl) (tQ rfl (qEq rfl rfl) (tQ rfl (qMove rfl) ?_)))))
                        refine tCase 126 rfl (fun g126 => ?_) (fun g126 => ?_)
                        · refine tGo rfl rfl (tQ rfl (qFieldAddr Tryd.runUnderlying44 rfl Tryd.sizeOf3 rfl rfl rfl) (tGo rfl rfl (tQ rfl (qLd1M 0 Tryd.isAgg3 rfl rfl rfl) (tGo rfl rfl (tQ rfl (qEq rfl rfl) (tQ rfl (qPickT rfl rfl) (tQ rfl (qAssign rfl) (tEnd (xThen (cRet (xRetBlock (xRetThen ?_))))))))))))
                          refine xRet1 _ Tryd.results51 rfl fun w' s' => ⟨congrArg Value.bool ?_, s'.toExt (Sub.refl _)⟩
                          rw [Bool.eq_iff_iff]
                          simp only [instOk, fitsOk, hxl] at *
                          simp only [Go.V.dsl, reduceCtorEq] at *
                          omega
                        · refine tNo rfl rfl rfl rfl (tNo rfl rfl rfl rfl (tNo rfl rfl rfl rfl (tQ rfl (qPickF rfl rfl) (tQ rfl (qAssign rfl) (tEnd (xThen (cRet (xRetBlock (xRetThen ?_)))))))))
                          refine xRet1 _ Tryd.results51 rfl fun w' s' => ⟨congrArg Value.bool ?_, s'.toExt (Sub.refl _)⟩
                          rw [Bool.eq_iff_iff]
                          simp only [instOk, fitsOk, hxl] at *
                          simp only [Go.V.dsl, reduceCtorEq] at *
                          omega
                      · refine cSkip (xBlock (xThen (cSeq (cReg (tQ rfl (qAssign rfl) (tEnd (xThen (cRet ?_))))))))
                        refine xRet1 _ Tryd.results51 rfl fun w' s' => ⟨congrArg Value.bool ?_, s'.toExt (Sub.refl _)⟩
                        rw [Bool.eq_iff_iff]
                        simp only [instOk, fitsOk, hxl] at *
                        simp only [Go.V.dsl, reduceCtorEq] at *
                        omega

theorem inst12 {F : Hp} {w : World} {A : Option Addr} {m c : Nat} {x : Ins} {n g : Int} {raw : Bool} (hF : Sub F (hp w)) (hx : RdR F A m x.set) (hm : m ≤ 1000000000) (hn : 0 ≤ n ∧ n ≤ 1000000000) (hg : 0 ≤ g ∧ g ≤ 1000000000) :
    Calls Tryd.prog 51 [.agg #[.int .i64 x.op, .slice A m c, .int .i64 x.x, .int .i64 x.y, .int .i64 x.n], .int .i64 n, .int .i64 g, .bool raw].toArray w (fun e w' => e = .returned (.bool (decide (instOk x n g raw))) ∧ Ext w w') := by
  cases raw
  · exact inst12F hF hx hm hn hg
  · exact inst12T hF hx hm hn hg
theorem check12 {F : Hp} {w : World} {A B : Option Addr} {n m cA cB : Nat} {p : Prg} (hF : Sub F (hp w)) (hg : RdG F A n B m p) (hc : m ≤ cB) :
    Calls Tryd.prog 21 [.agg #[.slice A n cA, .slice B m cB, .bool p.raw]].toArray w (fun e w' => e = .returned (.int .i64 (checkE p)) ∧ Ext w w') := by
  replace hg := hg.mono hF
  obtain ⟨hgi, hgn, hb1, hb2, hb3⟩ := hg
  have hil := hgi.len
  have hnl := hgn.len
  have hBig : Big = 1048576 := rfl
  refine enter' 38 Tryd.func21 Tryd.ntmps21 rfl rfl (cSeq (cReg (tBox rfl rfl rfl (cs := [_, _, _]) fun b1 => (tQ rfl (qAssign rfl) (tEnd (xThen (cSeq (cReg (tQ rfl (qFieldAddr Tryd.runUnderlying31 rfl Tryd.sizeOf28 rfl rfl rfl) (tQ rfl (qLd1M 0 Tryd.isAgg28 rfl rfl rfl) (tQ rfl (qLen Tryd.runUnderlying28 rfl rfl) (tQ rfl (qAssign rfl) (tEnd (xThen (cSeq (cSeq (cReg (tQ rfl (qMove rfl) (tQ rfl (qLt rfl rfl) ?_)))))))))))))))))))
  refine tQ rfl (qMove rfl) ?_
  refine tCase 10 rfl (fun g10 => ?_) (fun g10 => ?_)
  · refine tNo rfl rfl rfl rfl (tNo rfl rfl rfl rfl (tQ rfl (qPickT rfl rfl) (tQ rfl (qMove rfl) (tNo rfl rfl rfl rfl (tNo rfl rfl rfl rfl (tNo rfl rfl rfl rfl (tNo rfl rfl rfl rfl (tQ rfl (qPickT rfl rfl) (tEnd (xThen (cIfT rfl (cSeq (cReg ?_)))))))))))))
    refine tQ rfl (qAssign rfl) (tEnd (xThen (cRet (xRetThen ?_))))
    refine xRet1 _ Tryd.results21 rfl fun w' s' => ⟨?_, s'.toExt (Sub.refl _)⟩
    rw [checkE_bad]
    rintro ⟨h1, h2, _⟩
    rw [hil] at h1
    first | (simp at g10; omega) | (simp at g14; omega) | (simp [h2] at c19)
  · refine tGo rfl rfl (tQ rfl (qMove rfl) (tGo rfl rfl (tQ rfl (qGt rfl rfl) (tQ rfl (qPickF rfl rfl) (tQ rfl (qMove rfl) ?_)))))
    refine tCase 14 rfl (fun g14 => ?_) (fun g14 => ?_)
    · refine tNo rfl rfl rfl rfl (tNo rfl rfl rfl rfl (tNo rfl rfl rfl rfl (tNo rfl rfl rfl rfl (tQ rfl (qPickT rfl rfl) (tEnd (xThen (cIfT rfl (cSeq (cReg (tQ rfl (qAssign rfl) (tEnd (xThen (cRet (xRetThen ?_))))))))))))))
      refine xRet1 _ Tryd.results21 rfl fun w' s' => ⟨?_, s'.toExt (Sub.refl _)⟩
      rw [checkE_bad]
      rintro ⟨h1, h2, _⟩
      rw [hil] at h1
      first | (simp at g10; omega) | (simp at g14; omega) | (simp [h2] at c19)
    · refine tGo rfl rfl (tQ rfl (qFieldAddr Tryd.runUnderlying31 rfl Tryd.sizeOf29 rfl rfl rfl) (tGo rfl rfl (tQ rfl (qLd1M 0 Tryd.isAgg29 rfl rfl rfl) (tGo rfl rfl (tCallQ rfl Tryd.call50 (first := []) (captured := []) rfl rfl (fun w' s' => names12 s'.sub hgn (by omega) (fun s hs => by have := hb3 s hs; omega)) (tGo rfl rfl (tQ rfl (qNot rfl) (tQ rfl (qPickF rfl rfl) (tEnd (xThen ?_))))))))))
      refine cIf rfl (fun c19 => ?_) (fun c19 => ?_)
      · refine cSeq (cReg (tQ rfl (qAssign rfl) (tEnd (xThen (cRet (xRetThen ?_))))))
        refine xRet1 _ Tryd.results21 rfl fun w' s' => ⟨?_, s'.toExt (Sub.refl _)⟩
        rw [checkE_bad]
        rintro ⟨h1, h2, _⟩
        rw [hil] at h1
        first | (simp at g10; omega) | (simp at g14; omega) | (simp [h2] at c19)
      · refine cSkip (xThen (cSeq (cSeq (cReg (tQ rfl (qAssign rfl) (tEnd (xThen (cBlock (cLoop (⟨fun (k : Nat) => [(1, .pointer (some ⟨b1, 0, none⟩)), (3, .int .i64 n), (4, .int .i64 k)], fun (k : Nat) => hp w, fun (k : Nat) => [blk b1 [.slice A n cA, .slice B m cB, .bool p.raw] 31], fun (k : Nat) => k ≤ n ∧ ∀ j, j < k → instOk (gI p.insts j) p.insts.length p.names.length p.raw, fun (k : Nat) => n - k⟩ : LI (Nat)) (loopStart _ 0 ⟨by omega, fun j hj => by omega⟩ (le_of ⟨rfl, rfl, rfl, trivial⟩) (fun _ s => s)) ?_)))))))))
        rintro k ⟨hk, hok⟩
        refine cSeq (cSeq (cReg (tQ rfl (qMove rfl) (tQ rfl (qMove rfl) (tQ rfl (qLt rfl rfl) (tEnd (xThen ?_)))))))
        refine cIf rfl (fun c22 => ?_) (fun c22 => ?_)
        · refine cSkip (xThen (cSeq (cBlock (cSeq ?_))))
          have hlt : k < n := by simp at c22; omega
          obtain ⟨b, o, rfl, h1⟩ := hgi.at_ (by omega)
          obtain ⟨B', m', c', hR, hN⟩ := h1 k hlt
          have hms : m' ≤ 1000000000 := by have := (hgi.wf _ (gI_mem (by rw [hil]; exact hlt))).2.2.2.2; rw [hR.len] at this; omega
          refine cDrawM 12 [(0, true), (1, true), (2, true), (3, true), (4, true), (5, true), (6, true), (7, true), (8, true), (9, true), (10, true), (11, false)] Tryd.mixed (by kernel_rfl) (fun _ _ _ _ _ h => h) (dQ rfl rfl (qFieldAddr Tryd.runUnderlying31 rfl Tryd.sizeOf28 rfl rfl rfl) (fun _ s => s) (dQ rfl rfl (qLd1M 0 Tryd.isAgg28 rfl rfl rfl) (fun _ s => s) (dQ rfl rfl (qMove rfl) (fun _ s => s) (dQ rfl rfl (qIdxAddr Tryd.runUnderlying28 Tryd.sizeOf44 rfl rfl rfl (by omega)) (fun _ s => s) (dQ rfl rfl (qLdN Tryd.isAgg44 Tryd.sizeOf44 rfl hN) (fun _ s => s) (dQ rfl rfl (qMove rfl) (fun _ s => s) (dQ rfl rfl (qFieldAddr Tryd.runUnderlying31 rfl Tryd.sizeOf29 rfl rfl rfl) (fun _ s => s) (dQ rfl rfl (qLd1M 0 Tryd.isAgg29 rfl rfl rfl) (fun _ s => s) (dQ rfl rfl (qLen Tryd.runUnderlying29 rfl rfl) (fun _ s => s) (dQ rfl rfl (qFieldAddr Tryd.runUnderlying31 rfl Tryd.sizeOf4 rfl rfl rfl) (fun _ s => s) (dQ rfl rfl (qLd1M 0 Tryd.isAgg4 rfl rfl rfl) (fun _ s => s) ?_)))))))))))
          refine dCallQ rfl rfl Tryd.call51 (first := []) (captured := []) rfl rfl (fun w' s' => inst12 s'.sub hR hms (by omega) (by omega)) (fun _ s => s) (dEnd (tQ rfl (qNot rfl) (tEnd (xThen ?_))))
          refine cIf rfl (fun c37 => ?_) (fun c37 => ?_)
          · refine cSeq (cReg (tQ rfl (qAssign rfl) (tEnd (xThen (cRet (xRetBlock (xRetThen (xRetThen (xRetBlock (xRetThen ?_))))))))))
            refine xRet1 _ Tryd.results21 rfl fun w' s' => ⟨?_, s'.toExt (Sub.refl _)⟩
            rw [checkE_bad]
            rintro ⟨_, _, h⟩
            have := h k (by omega)
            rw [hil, hnl] at this
            simp [this] at c37
          · refine cSkip (xBlock (xThen (cReg (tQ rfl (qMove rfl) (tQ rfl (qAdd rfl rfl (w64 (by omega) (by omega))) (tQ rfl (qAssign rfl) (tEnd ?_)))))))
            refine xRound _ (k + 1) ?_ (by dsimp only; omega) (le_of ⟨rfl, rfl, rfl, trivial⟩) (fun _ s => s)
            refine ⟨by omega, fun j hj => ?_⟩
            rcases Nat.lt_or_ge j k with h | h
            · exact hok j h
            · obtain rfl : j = k := by omega
              rw [hil, hnl]
              simpa using c37
        · refine cExit (xExitThen (xExitThen (xExitBlock (xThen (cSeq (cReg (tQ rfl (qAssign rfl) (tEnd (xThen (cRet ?_))))))))))
          refine xRet1 _ Tryd.results21 rfl fun w' s' => ⟨?_, s'.toExt (Sub.refl _)⟩
          have hk' : k = n := by simp at c22; omega
          subst hk'
          rw [checkE_ok]
          rw [← hil] at hok
          exact ⟨by rw [hil]; simp at *; omega, by simpa using c19, hok⟩

end Go.V
