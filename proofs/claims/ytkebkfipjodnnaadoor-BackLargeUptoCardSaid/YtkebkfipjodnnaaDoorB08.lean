/-
  Lemmas of this claim's own, part 9: contracts of the functions that the statement reaches, and the plain facts behind them.
-/
import Derived.Test.YtkebkfipjodnnaaDoorB07
set_option linter.unusedVariables false
set_option linter.unusedSimpArgs false
namespace Go.V
open Go.Proofs
set_option linter.unusedVariables false
set_option linter.unusedSimpArgs false

theorem noted_ {F : Hp} {w : World} {B : Option Addr} {n c k : Nat} {xs : List Int} {z : Int} (hF : Sub F (hp w)) (hx : RdI F .i64 B n xs) (hn : n ≤ 1000000000) (hk : k < n) :
    Calls Tryd.prog 125 [.slice B n c, .int .i64 k, .int .i64 z].toArray w (fun e w' => ∃ v, e = .returned v ∧ ∃ C, Own w w' C ∧ ∃ b cap, v = rowV (some b) n cap ∧ C = [row (some b) cap 3 1 ((xs.set k z).map (.int .i64 ·))]) := by
  replace hx := hx.mono hF
  have hxl := hx.len
  obtain ⟨bx, ox, rfl, hxi⟩ := hx.at_ (by omega)
  have hat : atN (hp w) bx ox (n * 1) = some (xs.map (.int .i64 ·)) := rdI_atN hxl (by omega) hxi
  refine Calls.mono (enterG (R := fun v w' => ∃ C, Own w w' C ∧ ∃ b cap, v = rowV (some b) n cap ∧ C = [row (some b) cap 3 1 ((xs.set k z).map (.int .i64 ·))]) 19 Tryd.func125 Tryd.ntmps125 rfl rfl (WS.start w) ?_) (fun e w' ⟨v, h1, h2⟩ => ⟨v, h1, h2⟩)
  refine cSeq (cReg (tQ rfl (qAssign rfl) (tEnd (xThen (cSeq (cReg (tQ rfl (qMove rfl) (tQ rfl (qLen Tryd.runUnderlying24 rfl rfl) (tMake (bytes := 8) rfl Tryd.runUnderlying24 Tryd.typeInfo3 rfl Tryd.sizeOf3 Tryd.zeroValue3 rfl rfl rfl (k := n) (c := n) rfl rfl (by omega) (by omega) (by omega) fun b10 => (tQ rfl (qAssign rfl) (tEnd (xThen (cSeq (cReg (tQ rfl (qMove rfl) (tQ rfl (qMove rfl) (tCopy 0 rfl Tryd.runUnderlying24 Tryd.sizeOf3 rfl rfl rfl (by simp [zcells_len, Value.cells]) (by simp [hxl]) (by simp [Value.oneCell']) (fun w' s' => reads_slice (atN_mono s'.sub hat)) (tEnd (xThen (cSeq (cReg ?_)))))))))))))))))))))
  refine tQ rfl (qMove rfl) (tQ rfl (qMove rfl) (tQ rfl (qMove rfl) (tQ rfl (qIdxAddr Tryd.runUnderlying24 Tryd.sizeOf3 rfl rfl rfl (by omega)) (tStore1 0 Tryd.sizeOf3 rfl rfl rfl rfl (by simp; omega) (tEnd (xThen (cSeq (cReg (tQ rfl (qMove rfl) (tQ rfl (qAssign rfl) (tEnd (xThen (cRet ?_)))))))))))))
  refine xRet1 _ Tryd.results125 rfl fun w' s' => ⟨_, (s'.blkRow (sz := 1) 0 rfl n (by simp [hxl])).toOwn (Sub.refl _), b10, n, rfl, ?_⟩
  simp [List.map_set]

theorem levels_ {F : Hp} {M : List Chunk} {w0 w : World} {bw n cI : Nat} {AI : Option Addr} {VN vu vp vb vr vw vq : Value} {raw : Bool} {txt : ByteArray} {ins : List Ins} (s0 : WS F (blk bw [.slice AI n cI, VN, .bool raw, .string txt, vu, vp, vb, vr, .int .i64 0, vw, vq] 152 :: M) w0 w) (hi : RdP F AI n ins) (hn : 0 < n ∧ n ≤ 20000) (hmk : ∀ k, k < n → (gI ins k).op = 5 → 0 ≤ (gI ins k).n ∧ (gI ins k).n ≤ 63) :
    Calls Tryd.prog 122 [.pointer (some ⟨bw, 0, none⟩)].toArray w (fun e w' => ∃ v, e = .returned v ∧ ∃ F' M', (v = .tuple #[] ∧ F' = F ∧ ∃ br, M' = blk br (rnkC (mkOf ins) 65) 3 :: blk bw [.slice AI n cI, VN, .bool raw, .string txt, vu, vp, vb, (.slice (some ⟨br, 0, none⟩) 65 65), .int .i64 (rankOf (mkOf ins) 65 : Nat), vw, vq] 152 :: M) ∧ WS F' M' w0 w') := by
  have hil := hi.len
  obtain ⟨bI, oI, rfl, hIa⟩ := hi.at_ (by omega)
  refine Calls.mono (enterG (R := fun v w' => ∃ F' M', (v = .tuple #[] ∧ F' = F ∧ ∃ br, M' = blk br (rnkC (mkOf ins) 65) 3 :: blk bw [.slice (some ⟨bI, oI, none⟩) n cI, VN, .bool raw, .string txt, vu, vp, vb, (.slice (some ⟨br, 0, none⟩) 65 65), .int .i64 (rankOf (mkOf ins) 65 : Nat), vw, vq] 152 :: M) ∧ WS F' M' w0 w') 76 Tryd.func122 Tryd.ntmps122 rfl rfl s0 ?_) (fun e w' ⟨v, h1, h2⟩ => ⟨v, h1, h2⟩)
  refine cSeq (cReg (tQ rfl (qMove rfl) (tMake (bytes := 8) rfl Tryd.runUnderlying24 Tryd.typeInfo3 rfl Tryd.sizeOf3 Tryd.zeroValue3 rfl rfl rfl (k := 65) (c := 65) rfl rfl (by omega) (by omega) (by omega) fun br => (tQ rfl (qNil rfl) (tQ rfl (qFieldAddr Tryd.runUnderlying152 rfl Tryd.sizeOf24 rfl rfl rfl) (tStore1 1 Tryd.sizeOf24 rfl rfl rfl rfl (by simp) (tEnd (xThen (cSeq (cSeq (cReg (tQ rfl (qAssign rfl) (tEnd (xThen (cBlock (cLoop (⟨fun (i : Nat) => [(0, .pointer (some ⟨bw, 0, none⟩)), (2, .int .i64 i)], fun (i : Nat) => F, fun (i : Nat) => blk br (oneC (mk1 ins i)) 3 :: blk bw [.slice (some ⟨bI, oI, none⟩) n cI, VN, .bool raw, .string txt, vu, vp, vb, (.slice (some ⟨br, 0, none⟩) 65 65), .int .i64 0, vw, vq] 152 :: M, fun (i : Nat) => i ≤ n, fun (i : Nat) => n - i⟩ : LI (Nat)) (loopStart _ 0 (Nat.zero_le _) (le_of ⟨rfl, rfl, trivial⟩) (fun _ sw => by show WS _ (blk br (oneC (mk1 ins 0)) 3 :: _) _ _; rw [oneC_zero (mk1 ins 0) (fun l => by simp [mk1])]; exact sw)) ?_))))))))))))))))
  rintro i hi2
  refine cSeq (cSeq (cReg (tQ rfl (qMove rfl) (tQ rfl (qMove rfl) (tQ rfl (qNil rfl) (tQ rfl (qFieldAddr Tryd.runUnderlying152 rfl Tryd.sizeOf31 rfl rfl rfl) (tQ rfl (qFieldAddr Tryd.runUnderlying31 rfl Tryd.sizeOf28 rfl rfl rfl) (tQ rfl (qLd1M 1 Tryd.isAgg28 rfl rfl rfl) (tQ rfl (qLen Tryd.runUnderlying28 rfl rfl) (tQ rfl (qLt rfl rfl) (tEnd (xThen ?_))))))))))))
  refine cIf rfl (fun c15 => ?_) (fun c15 => ?_)
  · refine cSkip (xThen (cSeq (cBlock (cSeq ?_))))
    have hlt : i < n := by simp at c15; omega
    obtain ⟨Bs, ms, cs', hR, hN⟩ := hIa i hlt
    refine cReg (tQ rfl (qMove rfl) (tQ rfl (qNil rfl) (tQ rfl (qFieldAddr Tryd.runUnderlying152 rfl Tryd.sizeOf31 rfl rfl rfl) (tQ rfl (qFieldAddr Tryd.runUnderlying31 rfl Tryd.sizeOf28 rfl rfl rfl) (tQ rfl (qLd1M 1 Tryd.isAgg28 rfl rfl rfl) (tQ rfl (qMove rfl) (tQ rfl (qIdxAddr Tryd.runUnderlying28 Tryd.sizeOf44 rfl rfl rfl (by omega)) (tQ rfl (qFieldAddr Tryd.runUnderlying44 rfl Tryd.sizeOf3 rfl rfl rfl) (tQ rfl (qLd1 Tryd.isAgg3 rfl (at1_of_atN hN 0 rfl)) (tQ rfl (qEq rfl rfl) (tEnd (xThen ?_))))))))))))
    refine cIf rfl (fun c27 => ?_) (fun c27 => ?_)
    · have h5 : (gI ins i).op = 5 := by simpa using c27
      obtain ⟨hn1, hn2⟩ := hmk i hlt h5
      obtain ⟨c5, hc5⟩ : ∃ c : Nat, (gI ins i).n = (c : Int) := ⟨(gI ins i).n.toNat, by omega⟩
      refine cDrawM 14 [(0, true), (1, true), (2, true), (3, true), (4, true), (5, true), (6, true), (7, true), (8, true), (9, true), (10, true), (11, true), (12, true), (13, true)] Tryd.mixed (by kernel_rfl) (fun _ _ _ _ _ h => h) (dQ rfl rfl (qMove rfl) (fun _ s => s) (dQ rfl rfl (qNil rfl) (fun _ s => s) (dQ rfl rfl (qFieldAddr Tryd.runUnderlying152 rfl Tryd.sizeOf24 rfl rfl rfl) (fun _ s => s) (dQ rfl rfl (qLd1M 1 Tryd.isAgg24 rfl rfl rfl) (fun _ s => s) (dQ rfl rfl (qMove rfl) (fun _ s => s) (dQ rfl rfl (qNil rfl) (fun _ s => s) (dQ rfl rfl (qFieldAddr Tryd.runUnderlying152 rfl Tryd.sizeOf31 rfl rfl rfl) (fun _ s => s) (dQ rfl rfl (qFieldAddr Tryd.runUnderlying31 rfl Tryd.sizeOf28 rfl rfl rfl) (fun _ s => s) (dQ rfl rfl (qLd1M 1 Tryd.isAgg28 rfl rfl rfl) (fun _ s => s) (dQ rfl rfl (qMove rfl) (fun _ s => s) (dQ rfl rfl (qIdxAddr Tryd.runUnderlying28 Tryd.sizeOf44 rfl rfl rfl (by omega)) (fun _ s => s) ?_)))))))))))
      refine dQ rfl rfl (qFieldAddr Tryd.runUnderlying44 rfl Tryd.sizeOf3 rfl rfl rfl) (fun _ s => s) (dQ rfl rfl (qLd1 Tryd.isAgg3 rfl (at1_of_atN hN 4 rfl)) (fun _ s => s) (dQ rfl rfl (qIdxAddr Tryd.runUnderlying24 Tryd.sizeOf3 rfl rfl (j := c5) (by omega) (by omega)) (fun _ s => s) (dEnd (tStore1 0 Tryd.sizeOf3 rfl rfl rfl rfl (by simp [oneC_len]; omega) (tEnd (xBlock (xThen (cReg (tQ rfl (qMove rfl) (tQ rfl (qAdd rfl rfl (w64 (by omega) (by omega))) (tQ rfl (qAssign rfl) (tEnd ?_))))))))))))
      refine xRound _ (i + 1) ?_ (by dsimp only; omega) (le_of ⟨rfl, rfl, trivial⟩) (fun _ sw => by show WS _ (blk br (oneC (mk1 ins (i + 1))) 3 :: _) _ _; first | (rw [mk1_skip (by omega) (by simpa using c27)]; exact sw) | (have hw : WS _ (blk br ((oneC (mk1 ins i)).set (0 + c5 * 1) (.int .i64 1)) 3 :: _) _ _ := sw; rw [Nat.zero_add, Nat.mul_one, oneC_set (by omega) (mk1_mark (by omega) h5 hc5)] at hw; exact hw))
      omega
    · refine cSkip (xBlock (xThen (cReg (tQ rfl (qMove rfl) (tQ rfl (qAdd rfl rfl (w64 (by omega) (by omega))) (tQ rfl (qAssign rfl) (tEnd ?_)))))))
      refine xRound _ (i + 1) ?_ (by dsimp only; omega) (le_of ⟨rfl, rfl, trivial⟩) (fun _ sw => by show WS _ (blk br (oneC (mk1 ins (i + 1))) 3 :: _) _ _; first | (rw [mk1_skip (by omega) (by simpa using c27)]; exact sw) | (have hw : WS _ (blk br ((oneC (mk1 ins i)).set (0 + c5 * 1) (.int .i64 1)) 3 :: _) _ _ := sw; rw [Nat.zero_add, Nat.mul_one, oneC_set (by omega) (mk1_mark (by omega) h5 hc5)] at hw; exact hw))
      omega
  · refine cExit (xExitThen (xExitThen (xExitBlock (xThen (cSeq ?_)))))
    have hie : n = i := by simp at c15; omega
    subst hie
    refine cReg (tQ rfl (qMove rfl) (tQ rfl (qNil rfl) (tQ rfl (qFieldAddr Tryd.runUnderlying152 rfl Tryd.sizeOf24 rfl rfl rfl) (tQ rfl (qLd1M 1 Tryd.isAgg24 rfl rfl rfl) (tQ rfl (qIdxAddr Tryd.runUnderlying24 Tryd.sizeOf3 rfl rfl (show _ = ((64 : Nat) : Int) from rfl) (by omega)) (tStore1 0 Tryd.sizeOf3 rfl rfl rfl rfl (by simp [oneC_len]) (tEnd (xThen (cSeq (cReg (tQ rfl (qAssign rfl) (tEnd (xThen (cBlock (cLoop (⟨fun (l : Nat) => [(0, .pointer (some ⟨bw, 0, none⟩)), (3, .int .i64 l)], fun (l : Nat) => F, fun (l : Nat) => blk br (rnkC (mkOf ins) l) 3 :: blk bw [.slice (some ⟨bI, oI, none⟩) n cI, VN, .bool raw, .string txt, vu, vp, vb, (.slice (some ⟨br, 0, none⟩) 65 65), .int .i64 (rankOf (mkOf ins) l : Nat), vw, vq] 152 :: M, fun (l : Nat) => l ≤ 65, fun (l : Nat) => 65 - l⟩ : LI (Nat)) (loopStart _ 0 (Nat.zero_le _) (le_of ⟨rfl, rfl, trivial⟩) (fun _ sw => by have hw : WS _ (blk br ((oneC (mk1 ins n)).set 64 (.int .i64 1)) 3 :: _) _ _ := sw; rw [oneC_set (g := mkOf ins) (by omega) (fun l => by rw [mk1_all hil, Bool.or_comm])] at hw; show WS _ (blk br (rnkC (mkOf ins) 0) 3 :: _) _ _; rw [rnkC_zero]; exact hw)) ?_)))))))))))))))
    rintro l hl
    refine cSeq (cSeq (cReg (tQ rfl (qMove rfl) (tQ rfl (qLe rfl rfl) (tEnd (xThen ?_))))))
    refine cIf rfl (fun c48 => ?_) (fun c48 => ?_)
    · refine cSkip (xThen (cSeq (cBlock (cSeq ?_))))
      have hll : l < 65 := by simp at c48; omega
      have hrl := rank_le (mkOf ins) l
      refine cReg (tQ rfl (qMove rfl) (tQ rfl (qNil rfl) (tQ rfl (qFieldAddr Tryd.runUnderlying152 rfl Tryd.sizeOf24 rfl rfl rfl) (tQ rfl (qLd1M 1 Tryd.isAgg24 rfl rfl rfl) (tQ rfl (qMove rfl) (tQ rfl (qIdxAddr Tryd.runUnderlying24 Tryd.sizeOf3 rfl rfl rfl (by omega)) (tQ rfl (qLd1M 0 Tryd.isAgg3 rfl rfl (v := .int .i64 ((if mkOf ins l then 1 else 0 : Nat) : Int)) (by rw [Nat.zero_add, Nat.mul_one]; exact rnkC_at (by omega))) (tQ rfl (qEq rfl rfl) (tEnd (xThen ?_))))))))))
      refine cIf rfl (fun c58 => ?_) (fun c58 => ?_)
      · refine cSeq (cDrawM 10 [(0, true), (1, true), (2, true), (3, true), (4, true), (5, true), (6, true), (7, true), (8, true), (9, true)] Tryd.mixed (by kernel_rfl) (fun _ _ _ _ _ h => h) (dQ rfl rfl (qMove rfl) (fun _ s => s) (dQ rfl rfl (qNil rfl) (fun _ s => s) (dQ rfl rfl (qFieldAddr Tryd.runUnderlying152 rfl Tryd.sizeOf24 rfl rfl rfl) (fun _ s => s) (dQ rfl rfl (qLd1M 1 Tryd.isAgg24 rfl rfl rfl) (fun _ s => s) (dQ rfl rfl (qMove rfl) (fun _ s => s) (dQ rfl rfl (qMove rfl) (fun _ s => s) (dQ rfl rfl (qNil rfl) (fun _ s => s) (dQ rfl rfl (qFieldAddr Tryd.runUnderlying152 rfl Tryd.sizeOf3 rfl rfl rfl) (fun _ s => s) (dQ rfl rfl (qLd1M 1 Tryd.isAgg3 rfl rfl rfl) (fun _ s => s) (dQ rfl rfl (qIdxAddr Tryd.runUnderlying24 Tryd.sizeOf3 rfl rfl rfl (by omega)) (fun _ s => s) ?_)))))))))))
        refine dEnd (tStore1 0 Tryd.sizeOf3 rfl rfl rfl rfl (by simp [rnkC_len]; omega) (tEnd (xThen (cReg (tQ rfl (qMove rfl) (tQ rfl (qNil rfl) (tQ rfl (qFieldAddr Tryd.runUnderlying152 rfl Tryd.sizeOf3 rfl rfl rfl) (tQ rfl (qLd1M 1 Tryd.isAgg3 rfl rfl rfl) (tQ rfl (qAdd rfl rfl (w64 (by omega) (by omega))) (tQ rfl (qNil rfl) (tQ rfl (qFieldAddr Tryd.runUnderlying152 rfl Tryd.sizeOf3 rfl rfl rfl) (tStore1 1 Tryd.sizeOf3 rfl rfl rfl rfl (by simp) (tEnd (xBlock (xThen (cReg ?_))))))))))))))))
        refine tQ rfl (qMove rfl) (tQ rfl (qAdd rfl rfl (w64 (by omega) (by omega))) (tQ rfl (qAssign rfl) (tEnd ?_)))
        refine xRound _ (l + 1) ?_ (by dsimp only; omega) (le_of ⟨rfl, rfl, trivial⟩) (fun _ sw => by show WS _ (blk br (rnkC (mkOf ins) (l + 1)) 3 :: blk bw [_, _, _, _, _, _, _, _, .int .i64 (rankOf (mkOf ins) (l + 1) : Nat), _, _] 152 :: _) _ _; first | (have hml : mkOf ins l = false := (by cases hh : mkOf ins l <;> first | rfl | (exfalso; simp [hh] at c58)); rw [rnkC_skip hml, rank_succ, if_neg (by simp [hml])]; exact sw) | (have hml : mkOf ins l = true := (by cases hh : mkOf ins l <;> first | rfl | (exfalso; simp [hh] at c58)); have hw : WS _ (blk br ((rnkC (mkOf ins) l).set (0 + l * 1) (.int .i64 (rankOf (mkOf ins) l : Nat))) 3 :: _) _ _ := sw; rw [Nat.zero_add, Nat.mul_one, rnkC_set hll hml] at hw; rw [rank_succ, if_pos hml]; exact hw))
        omega
      · refine cSkip (xBlock (xThen (cReg (tQ rfl (qMove rfl) (tQ rfl (qAdd rfl rfl (w64 (by omega) (by omega))) (tQ rfl (qAssign rfl) (tEnd ?_)))))))
        refine xRound _ (l + 1) ?_ (by dsimp only; omega) (le_of ⟨rfl, rfl, trivial⟩) (fun _ sw => by show WS _ (blk br (rnkC (mkOf ins) (l + 1)) 3 :: blk bw [_, _, _, _, _, _, _, _, .int .i64 (rankOf (mkOf ins) (l + 1) : Nat), _, _] 152 :: _) _ _; first | (have hml : mkOf ins l = false := (by cases hh : mkOf ins l <;> first | rfl | (exfalso; simp [hh] at c58)); rw [rnkC_skip hml, rank_succ, if_neg (by simp [hml])]; exact sw) | (have hml : mkOf ins l = true := (by cases hh : mkOf ins l <;> first | rfl | (exfalso; simp [hh] at c58)); have hw : WS _ (blk br ((rnkC (mkOf ins) l).set (0 + l * 1) (.int .i64 (rankOf (mkOf ins) l : Nat))) 3 :: _) _ _ := sw; rw [Nat.zero_add, Nat.mul_one, rnkC_set hll hml] at hw; rw [rank_succ, if_pos hml]; exact hw))
        omega
    · refine cExit (xExitThen (xExitThen (xExitBlock (xEnd0 Tryd.results122 ?_))))
      intro w' s'
      have hl65 : l = 65 := by simp at c48; omega
      subst hl65
      exact ⟨F, _, ⟨rfl, rfl, br, rfl⟩, s'⟩

theorem before_ {F : Hp} {M : List Chunk} {w0 w : World} {bw bb br n cI np a bd lv : Nat} {AI : Option Addr} {VN vu vp vw vq vs : Value} {raw : Bool} {txt : ByteArray} {ins : List Ins} {T : Tbl} {V : Vis} (s0 : WS F (blk bw [.slice AI n cI, VN, .bool raw, .string txt, vu, vp, (.slice (some ⟨bb, 0, none⟩) np np), (.slice (some ⟨br, 0, none⟩) 65 65), .int .i64 (rankOf (mkOf ins) 65 : Nat), vw, vq] 152 :: blk bb (T.map tblV) 185 :: (T.map tblC ++ M)) w0 w) (hn : 0 < n ∧ n ≤ 20000)
    (hrk : ∀ l, l ≤ 64 → mkOf ins l = true → at1 F br (0 + l * 1) = some (.int .i64 (rankOf (mkOf ins) l : Nat))) (hT : TblOk n (mkOf ins) np T V) (hk : KeyOk n np 0 (mkOf ins) (a, bd, lv)) (hnp : np ≤ 1000000000) :
    Calls Tryd.prog 126 [.pointer (some ⟨bw, 0, none⟩), .agg #[.int .i64 a, .int .i64 bd, .int .i64 lv, vs]].toArray w (fun e w' => ∃ v, e = .returned v ∧ ∃ F' M', (v = .bool (V (a, bd, lv)) ∧ F' = F ∧ ∃ T', TblOk n (mkOf ins) np T' (V.add (a, bd, lv)) ∧ M' = blk bw [.slice AI n cI, VN, .bool raw, .string txt, vu, vp, (.slice (some ⟨bb, 0, none⟩) np np), (.slice (some ⟨br, 0, none⟩) 65 65), .int .i64 (rankOf (mkOf ins) 65 : Nat), vw, vq] 152 :: blk bb (T'.map tblV) 185 :: (T'.map tblC ++ M)) ∧ WS F' M' w0 w') := by
  have hbd : bd < np := by have := hk.hi; simp only at this; omega
  have hTl : bd < T.length := by rw [hT.len]; exact hbd
  have ha : a < n := hk.at_
  have hlv : lv ≤ 64 := hk.lv
  have hmkd : mkOf ins lv = true := hk.mkd
  have hL : rankOf (mkOf ins) 65 ≤ 65 := rank_le _ _
  have hkl := kof_lt hk
  obtain ⟨N, hN⟩ : ∃ N, N = n * rankOf (mkOf ins) 65 := ⟨_, rfl⟩
  have hNb : N ≤ 20000 * 65 := by rw [hN]; exact Nat.mul_le_mul hn.2 hL
  obtain ⟨q1, hq1⟩ : ∃ q, q = a * rankOf (mkOf ins) 65 := ⟨_, rfl⟩
  have hkk : kof (mkOf ins) (a, bd, lv) = q1 + rankOf (mkOf ins) lv := by rw [hq1]; rfl
  obtain ⟨kk, hkk2⟩ : ∃ k, kof (mkOf ins) (a, bd, lv) = k := ⟨_, rfl⟩
  rw [hkk2] at hkl hkk
  rw [← hN] at hkl
  obtain ⟨ob, bs, hx⟩ : ∃ ob bs, T.getD bd (none, []) = (ob, bs) := ⟨_, _, rfl⟩
  have hrow := hT.row bd hbd
  refine Calls.mono (enterG (R := fun v w' => ∃ F' M', (v = .bool (V (a, bd, lv)) ∧ F' = F ∧ ∃ T', TblOk n (mkOf ins) np T' (V.add (a, bd, lv)) ∧ M' = blk bw [.slice AI n cI, VN, .bool raw, .string txt, vu, vp, (.slice (some ⟨bb, 0, none⟩) np np), (.slice (some ⟨br, 0, none⟩) 65 65), .int .i64 (rankOf (mkOf ins) 65 : Nat), vw, vq] 152 :: blk bb (T'.map tblV) 185 :: (T'.map tblC ++ M)) ∧ WS F' M' w0 w') 74 Tryd.func126 Tryd.ntmps126 rfl rfl s0 ?_) (fun e w' ⟨v, h1, h2⟩ => ⟨v, h1, h2⟩)
  refine cSeq (cReg (tBox rfl rfl rfl (cs := [_, _, _, _]) fun b3 => (tQ rfl (qAssign rfl) (tEnd (xThen ?_)))))
  refine cCut (⟨fun (⟨T1, b1, bs1⟩ : Tbl × Nat × List Bool) => [(0, .pointer (some ⟨bw, 0, none⟩)), (3, .pointer (some ⟨b3, 0, none⟩))], fun (⟨T1, b1, bs1⟩ : Tbl × Nat × List Bool) => F, fun (⟨T1, b1, bs1⟩ : Tbl × Nat × List Bool) => blk b3 [.int .i64 a, .int .i64 bd, .int .i64 lv, vs] 198 :: blk bw [.slice AI n cI, VN, .bool raw, .string txt, vu, vp, (.slice (some ⟨bb, 0, none⟩) np np), (.slice (some ⟨br, 0, none⟩) 65 65), .int .i64 (rankOf (mkOf ins) 65 : Nat), vw, vq] 152 :: blk bb (T1.map tblV) 185 :: (T1.map tblC ++ M), fun (⟨T1, b1, bs1⟩ : Tbl × Nat × List Bool) => TblOk n (mkOf ins) np T1 V ∧ T1.getD bd (none, []) = (some b1, bs1) ∧ bs1.length = N, fun (⟨T1, b1, bs1⟩ : Tbl × Nat × List Bool) => 0⟩ : LI (Tbl × Nat × List Bool)) ?_ ?_
  · refine cSeq (cDrawM 9 [(0, true), (1, true), (2, true), (3, true), (4, true), (5, true), (6, true), (7, true), (8, true)] Tryd.mixed (by kernel_rfl) (fun _ _ _ _ _ h => h) (dQ rfl rfl (qMove rfl) (fun _ s => s) (dQ rfl rfl (qNil rfl) (fun _ s => s) (dQ rfl rfl (qFieldAddr Tryd.runUnderlying152 rfl Tryd.sizeOf65 rfl rfl rfl) (fun _ s => s) (dQ rfl rfl (qLd1M 1 Tryd.isAgg65 rfl rfl rfl) (fun _ s => s) (dQ rfl rfl (qFieldAddr Tryd.runUnderlying198 rfl Tryd.sizeOf3 rfl rfl rfl) (fun _ s => s) (dQ rfl rfl (qLd1M 0 Tryd.isAgg3 rfl rfl rfl) (fun _ s => s) (dQ rfl rfl (qIdxAddr Tryd.runUnderlying65 Tryd.sizeOf185 rfl rfl rfl (by omega)) (fun _ s => s) (dQ rfl rfl (qLd1M 2 Tryd.isAgg185 rfl rfl (v := .slice (ob.map fun b => ⟨b, 0, none⟩) bs.length bs.length) (by rw [tbl_val hTl, hx]; rfl)) (fun _ s => s) (dQ rfl rfl (qLen Tryd.runUnderlying185 rfl rfl) (fun _ s => s) (dEnd ?_)))))))))))
    refine tQ rfl (qEq rfl rfl) (tEnd (xThen ?_))
    refine cIf rfl (fun c16 => ?_) (fun c16 => ?_)
    · have hbs0 : bs = [] := by simpa using c16
      have hx0 : T.getD bd (none, []) = (none, []) := by
        rcases hrow with h | ⟨b, bs', h, hl⟩
        · exact h
        · rw [hx] at h; cases h; rw [hbs0, ← hN] at hl; simp at hl; omega
      refine cDrawM 19 [(0, true), (1, true), (2, true), (3, true), (4, true), (5, true), (6, true), (7, true), (8, true), (9, true), (10, true), (11, true), (12, true), (13, true), (14, true), (15, true), (16, true), (17, false), (18, true)] Tryd.mixed (by kernel_rfl) (fun _ _ _ _ _ h => h) (dQ rfl rfl (qMove rfl) (fun _ s => s) (dQ rfl rfl (qNil rfl) (fun _ s => s) (dQ rfl rfl (qFieldAddr Tryd.runUnderlying152 rfl Tryd.sizeOf65 rfl rfl rfl) (fun _ s => s) (dQ rfl rfl (qLd1M 1 Tryd.isAgg65 rfl rfl rfl) (fun _ s => s) (dQ rfl rfl (qFieldAddr Tryd.runUnderlying198 rfl Tryd.sizeOf3 rfl rfl rfl) (fun _ s => s) (dQ rfl rfl (qLd1M 0 Tryd.isAgg3 rfl rfl rfl) (fun _ s => s) (dQ rfl rfl (qMove rfl) (fun _ s => s) (dQ rfl rfl (qNil rfl) (fun _ s => s) (dQ rfl rfl (qFieldAddr Tryd.runUnderlying152 rfl Tryd.sizeOf31 rfl rfl rfl) (fun _ s => s) (dQ rfl rfl (qFieldAddr Tryd.runUnderlying31 rfl Tryd.sizeOf28 rfl rfl rfl) (fun _ s => s) (dQ rfl rfl (qLd1M 1 Tryd.isAgg28 rfl rfl rfl) (fun _ s => s) ?_)))))))))))
      refine dQ rfl rfl (qLen Tryd.runUnderlying28 rfl rfl) (fun _ s => s) (dQ rfl rfl (qMove rfl) (fun _ s => s) (dQ rfl rfl (qNil rfl) (fun _ s => s) (dQ rfl rfl (qFieldAddr Tryd.runUnderlying152 rfl Tryd.sizeOf3 rfl rfl rfl) (fun _ s => s) (dQ rfl rfl (qLd1M 1 Tryd.isAgg3 rfl rfl rfl) (fun _ s => s) (dQ rfl rfl (qMul rfl rfl (mulN hN (by omega))) (fun _ s => s) (dMake (bytes := 1) rfl rfl Tryd.runUnderlying185 Tryd.typeInfo4 rfl Tryd.sizeOf4 Tryd.zeroValue4 rfl rfl rfl (k := N) (c := N) rfl rfl (by omega) (by omega) (by omega) (fun _ _ s => s.less (.cons _ (.refl _))) fun b34 => (dQ rfl rfl (qIdxAddr Tryd.runUnderlying65 Tryd.sizeOf185 rfl rfl rfl (by omega)) (fun _ s => s.less (.cons _ (.refl _))) (dEnd (tStore1 3 Tryd.sizeOf185 rfl rfl rfl rfl (by simp; omega) (tEnd ?_))))))))))
      refine xMeet _ (T.set bd (some b34, List.replicate N false), b34, List.replicate N false) ?_ (le_of ⟨rfl, rfl, trivial⟩) (fun _ sw => by have hw : WS _ (blk b34 (zcells [.bool false] N) 4 :: ([blk b3 _ 198, blk bw _ 152, blk bb ((T.map tblV).set (0 + bd * 1) (.slice (some ⟨b34, 0, none⟩) N N)) 185] ++ (T.map tblC ++ M))) _ _ := sw; have hw := hw.into (i := bd) (by simpa using hTl); rw [zcells_bool, ← tblC_some, ← List.map_set, show Value.slice (some ⟨b34, 0, none⟩) N N = tblV (some b34, List.replicate N false) by simp [tblV], tbl_setV] at hw; exact hw)
      refine ⟨by rw [hN]; exact hT.lay hbd hx0, ?_, by simp⟩
      rw [getD_set_eq hTl, if_pos rfl]
    · refine cSkip ?_
      refine xMeet _ (T, ob.getD 0, bs) ?_ (le_of ⟨rfl, rfl, trivial⟩) (fun _ s => s)
      rcases hrow with h | ⟨b, bs', h, hl⟩
      · rw [hx] at h; cases h; simp at c16
      · rw [hx] at h; cases h; exact ⟨hT, hx, by rw [hN]; exact hl⟩
  · rintro ⟨T1, b1, bs1⟩ ⟨hT1, hx1, hbl1⟩
    have hTl1 : bd < T1.length := by rw [hT1.len]; exact hbd
    have hV1 : V (a, bd, lv) = bs1.getD kk false := by
      rw [hT1.vis _ hk, hkk2, hx1]
    refine cSeq (cDrawM 16 [(0, true), (1, true), (2, true), (3, true), (4, true), (5, true), (6, true), (7, true), (8, true), (9, true), (10, true), (11, true), (12, true), (13, true), (14, true), (15, true)] Tryd.mixed (by kernel_rfl) (fun _ _ _ _ _ h => h) (dQ rfl rfl (qFieldAddr Tryd.runUnderlying198 rfl Tryd.sizeOf3 rfl rfl rfl) (fun _ s => s) (dQ rfl rfl (qLd1M 0 Tryd.isAgg3 rfl rfl rfl) (fun _ s => s) (dQ rfl rfl (qMove rfl) (fun _ s => s) (dQ rfl rfl (qNil rfl) (fun _ s => s) (dQ rfl rfl (qFieldAddr Tryd.runUnderlying152 rfl Tryd.sizeOf3 rfl rfl rfl) (fun _ s => s) (dQ rfl rfl (qLd1M 1 Tryd.isAgg3 rfl rfl rfl) (fun _ s => s) (dQ rfl rfl (qMul rfl rfl (mulN hq1 (by omega))) (fun _ s => s) (dQ rfl rfl (qMove rfl) (fun _ s => s) (dQ rfl rfl (qNil rfl) (fun _ s => s) (dQ rfl rfl (qFieldAddr Tryd.runUnderlying152 rfl Tryd.sizeOf24 rfl rfl rfl) (fun _ s => s) ?_)))))))))))
    refine dQ rfl rfl (qLd1M 1 Tryd.isAgg24 rfl rfl rfl) (fun _ s => s) (dQ rfl rfl (qFieldAddr Tryd.runUnderlying198 rfl Tryd.sizeOf3 rfl rfl rfl) (fun _ s => s) (dQ rfl rfl (qLd1M 0 Tryd.isAgg3 rfl rfl rfl) (fun _ s => s) (dQ rfl rfl (qIdxAddr Tryd.runUnderlying24 Tryd.sizeOf3 rfl rfl rfl (by omega)) (fun _ s => s) (dQ rfl rfl (qLd1 Tryd.isAgg3 rfl (hrk lv hlv hmkd)) (fun _ s => s) (dQ rfl rfl (qAdd rfl rfl (c := ((kk : Nat) : Int)) (by rw [w64 (by omega) (by omega)]; omega)) (fun _ s => s) (dEnd (tQ rfl (qAssign rfl) (tEnd (xThen (cSeq (cDrawM 11 [(0, true), (1, true), (2, true), (3, true), (4, true), (5, true), (6, true), (7, true), (8, true), (9, true), (10, true)] Tryd.mixed (by kernel_rfl) (fun _ _ _ _ _ h => h) (dQ rfl rfl (qMove rfl) (fun _ s => s) (dQ rfl rfl (qNil rfl) (fun _ s => s) ?_)))))))))))))
    refine dQ rfl rfl (qFieldAddr Tryd.runUnderlying152 rfl Tryd.sizeOf65 rfl rfl rfl) (fun _ s => s) (dQ rfl rfl (qLd1M 1 Tryd.isAgg65 rfl rfl rfl) (fun _ s => s) (dQ rfl rfl (qFieldAddr Tryd.runUnderlying198 rfl Tryd.sizeOf3 rfl rfl rfl) (fun _ s => s) (dQ rfl rfl (qLd1M 0 Tryd.isAgg3 rfl rfl rfl) (fun _ s => s) (dQ rfl rfl (qIdxAddr Tryd.runUnderlying65 Tryd.sizeOf185 rfl rfl rfl (by omega)) (fun _ s => s) (dQ rfl rfl (qLd1M 2 Tryd.isAgg185 rfl rfl (v := .slice (some ⟨b1, 0, none⟩) bs1.length bs1.length) (by rw [tbl_val hTl1, hx1]; rfl)) (fun _ s => s) (dQ rfl rfl (qMove rfl) (fun _ s => s) (dQ rfl rfl (qIdxAddr Tryd.runUnderlying185 Tryd.sizeOf4 rfl rfl rfl (by omega)) (fun _ s => s) (dQ rfl rfl (qLd1M (bd + 3) Tryd.isAgg4 rfl (b := b1) (cs := bs1.map Value.bool) (e := 4) (by show (T1.map tblC ++ M)[bd]? = _; rw [tbl_idx hTl1, hx1]; rfl) (v := .bool (V (a, bd, lv))) (by rw [bools_at (by omega), hV1])) (fun _ s => s) (dEnd (tQ rfl (qAssign rfl) (tEnd (xThen (cSeq ?_)))))))))))))
    refine cDrawM 10 [(0, true), (1, true), (2, true), (3, true), (4, true), (5, true), (6, true), (7, true), (8, true), (9, true)] Tryd.mixed (by kernel_rfl) (fun _ _ _ _ _ h => h) (dQ rfl rfl (qMove rfl) (fun _ s => s) (dQ rfl rfl (qNil rfl) (fun _ s => s) (dQ rfl rfl (qFieldAddr Tryd.runUnderlying152 rfl Tryd.sizeOf65 rfl rfl rfl) (fun _ s => s) (dQ rfl rfl (qLd1M 1 Tryd.isAgg65 rfl rfl rfl) (fun _ s => s) (dQ rfl rfl (qFieldAddr Tryd.runUnderlying198 rfl Tryd.sizeOf3 rfl rfl rfl) (fun _ s => s) (dQ rfl rfl (qLd1M 0 Tryd.isAgg3 rfl rfl rfl) (fun _ s => s) (dQ rfl rfl (qIdxAddr Tryd.runUnderlying65 Tryd.sizeOf185 rfl rfl rfl (by omega)) (fun _ s => s) (dQ rfl rfl (qLd1M 2 Tryd.isAgg185 rfl rfl (v := .slice (some ⟨b1, 0, none⟩) bs1.length bs1.length) (by rw [tbl_val hTl1, hx1]; rfl)) (fun _ s => s) (dQ rfl rfl (qMove rfl) (fun _ s => s) (dQ rfl rfl (qIdxAddr Tryd.runUnderlying185 Tryd.sizeOf4 rfl rfl rfl (by omega)) (fun _ s => s) (dEnd ?_)))))))))))
    refine tStore1 (bd + 3) Tryd.sizeOf4 rfl rfl rfl (b := b1) (cs := bs1.map Value.bool) (e := 4) (by show (T1.map tblC ++ M)[bd]? = _; rw [tbl_idx hTl1, hx1]; rfl) (by simp; omega) (tEnd (xThen (cSeq (cReg (tQ rfl (qMove rfl) (tQ rfl (qAssign rfl) (tEnd (xThen (cRet ?_)))))))))
    refine xRet1 _ Tryd.results126 rfl fun w' s' => ⟨F, _, ⟨rfl, rfl, T1.set bd (some b1, bs1.set kk true), ?_, rfl⟩, ?_⟩
    · have := hT1.mark hk hx1 (by rw [← hN]; exact hbl1)
      rw [hkk2] at this
      exact this
    · have hw : WS _ (blk b3 _ 198 :: blk bw [.slice AI n cI, VN, .bool raw, .string txt, vu, vp, (.slice (some ⟨bb, 0, none⟩) np np), (.slice (some ⟨br, 0, none⟩) 65 65), .int .i64 (rankOf (mkOf ins) 65 : Nat), vw, vq] 152 :: blk bb (T1.map tblV) 185 :: ((T1.map tblC ++ M).set bd (blk b1 ((bs1.map Value.bool).set (0 + kk * 1) (.bool true)) 4))) _ _ := s'
      rw [bools_set, ← tblC_some, tbl_setC _ hTl1] at hw
      rw [tbl_sameV hx1 _ hTl1]
      exact hw.less (.cons _ (.refl _))

theorem way_ {F : Hp} {M : List Chunk} {w0 w : World} {bw n cI cw L c : Nat} {kd : Int} {AI B : Option Addr} {Aw : Option Nat} {VN vu vp vb vr vq : Value} {raw : Bool} {txt : ByteArray} {ways : List (List Int)} {wv : List Value} {h : List Int} (s0 : WS F (blk bw [.slice AI n cI, VN, .bool raw, .string txt, vu, vp, vb, vr, .int .i64 kd, (rowV Aw ways.length cw), vq] 152 :: row Aw cw 24 1 wv :: M) w0 w) (hAw : Aw = none → cw = 0 ∧ ways.length = 0)
    (hw : WvOk F L ways wv) (hh : RdI F .i64 B L h) (hL : 2 ≤ L) (hwl : ways.length ≤ 2700000000000) :
    Calls Tryd.prog 129 [.pointer (some ⟨bw, 0, none⟩), .slice B L c].toArray w (fun e w' => ∃ v, e = .returned v ∧ ∃ F' M', (v = .tuple #[] ∧ F' = F ∧ ∃ Aw' cw' wv', WvOk F L (addW ways h) wv' ∧ (Aw' = none → cw' = 0 ∧ (addW ways h).length = 0) ∧ M' = blk bw [.slice AI n cI, VN, .bool raw, .string txt, vu, vp, vb, vr, .int .i64 kd, (rowV Aw' (addW ways h).length cw'), vq] 152 :: row Aw' cw' 24 1 wv' :: M) ∧ WS F' M' w0 w') := by
  have hhl := hh.len
  obtain ⟨bh, oh, rfl, hha⟩ := hh.at_ (by omega)
  have hwvl := hw.len
  refine Calls.mono (enterG (R := fun v w' => ∃ F' M', (v = .tuple #[] ∧ F' = F ∧ ∃ Aw' cw' wv', WvOk F L (addW ways h) wv' ∧ (Aw' = none → cw' = 0 ∧ (addW ways h).length = 0) ∧ M' = blk bw [.slice AI n cI, VN, .bool raw, .string txt, vu, vp, vb, vr, .int .i64 kd, (rowV Aw' (addW ways h).length cw'), vq] 152 :: row Aw' cw' 24 1 wv' :: M) ∧ WS F' M' w0 w') 37 Tryd.func129 Tryd.ntmps129 rfl rfl s0 ?_) (fun e w' ⟨v, h1, h2⟩ => ⟨v, h1, h2⟩)
  refine cSeq (cSeq (cReg (tQ rfl (qAssign rfl) (tEnd (xThen (cBlock (cLoop (⟨fun (k : Nat) => [(0, .pointer (some ⟨bw, 0, none⟩)), (1, .slice (some ⟨bh, oh, none⟩) L c), (4, .int .i64 k)], fun (k : Nat) => F, fun (k : Nat) => blk bw [.slice AI n cI, VN, .bool raw, .string txt, vu, vp, vb, vr, .int .i64 kd, (rowV Aw ways.length cw), vq] 152 :: row Aw cw 24 1 wv :: M, fun (k : Nat) => k ≤ ways.length ∧ ∀ i, i < k → gZ (ways.getD i []) 1 ≠ gZ h 1, fun (k : Nat) => ways.length - k⟩ : LI (Nat)) (loopStart _ 0 ⟨Nat.zero_le _, fun i hi => by omega⟩ (le_of ⟨rfl, rfl, rfl, trivial⟩) (fun _ s => s)) ?_)))))))
  rintro k ⟨hk, hno⟩
  refine cSeq (cSeq (cReg (tQ rfl (qMove rfl) (tQ rfl (qMove rfl) (tQ rfl (qNil rfl) (tQ rfl (qFieldAddr Tryd.runUnderlying152 rfl Tryd.sizeOf50 rfl rfl rfl) (tQ rfl (qLd1M 0 Tryd.isAgg50 rfl rfl rfl) (tQ rfl (qLen Tryd.runUnderlying50 rfl rfl) (tQ rfl (qLt rfl rfl) (tEnd (xThen ?_)))))))))))
  refine cIf rfl (fun c11 => ?_) (fun c11 => ?_)
  · refine cSkip (xThen (cSeq (cBlock (cSeq ?_))))
    have hlt : k < ways.length := by simp at c11; omega
    obtain ⟨hyl, A2, c2, hwv, hy⟩ := hw.at_ k hlt
    obtain ⟨bY, oY, rfl, hya⟩ := hy.at_ (by omega)
    obtain ⟨bA, rfl⟩ : ∃ b, Aw = some b := by
      cases Aw with
      | none => have := (hAw rfl).2; omega
      | some b => exact ⟨b, rfl⟩
    refine cDrawM 12 [(0, true), (1, true), (2, true), (3, true), (4, true), (5, true), (6, true), (7, true), (8, true), (9, true), (10, true), (11, true)] Tryd.mixed (by kernel_rfl) (fun _ _ _ _ _ h => h) (dQ rfl rfl (qMove rfl) (fun _ s => s) (dQ rfl rfl (qNil rfl) (fun _ s => s) (dQ rfl rfl (qFieldAddr Tryd.runUnderlying152 rfl Tryd.sizeOf50 rfl rfl rfl) (fun _ s => s) (dQ rfl rfl (qLd1M 0 Tryd.isAgg50 rfl rfl rfl) (fun _ s => s) (dQ rfl rfl (qMove rfl) (fun _ s => s) (dQ rfl rfl (qIdxAddr Tryd.runUnderlying50 Tryd.sizeOf24 rfl rfl rfl (by omega)) (fun _ s => s) (dQ rfl rfl (qLd1Row 1 Tryd.isAgg24 rfl rfl (by rw [Nat.zero_add, Nat.mul_one]; exact hwv)) (fun _ s => s) (dQ rfl rfl (qIdxAddr Tryd.runUnderlying24 Tryd.sizeOf3 rfl rfl (show _ = ((1 : Nat) : Int) from rfl) (by omega)) (fun _ s => s) (dQ rfl rfl (qLd1 Tryd.isAgg3 rfl (hya 1 (by omega))) (fun _ s => s) (dQ rfl rfl (qMove rfl) (fun _ s => s) (dQ rfl rfl (qIdxAddr Tryd.runUnderlying24 Tryd.sizeOf3 rfl rfl (show _ = ((1 : Nat) : Int) from rfl) (by omega)) (fun _ s => s) ?_)))))))))))
    refine dQ rfl rfl (qLd1 Tryd.isAgg3 rfl (hha 1 (by omega))) (fun _ s => s) (dEnd (tQ rfl (qEq rfl rfl) (tEnd (xThen ?_))))
    refine cIf rfl (fun c26 => ?_) (fun c26 => ?_)
    · refine cRet (xRetBlock (xRetThen (xRetThen (xRetBlock (xRetThen (xRet0 Tryd.results129 fun w' s' => ?_))))))
      rw [addW_found hlt (by simpa using c26)]
      exact ⟨F, _, ⟨rfl, rfl, _, _, _, hw, hAw, rfl⟩, s'⟩
    · refine cSkip (xBlock (xThen (cReg (tQ rfl (qMove rfl) (tQ rfl (qAdd rfl rfl (w64 (by omega) (by omega))) (tQ rfl (qAssign rfl) (tEnd ?_)))))))
      refine xRound _ (k + 1) ?_ (by dsimp only; omega) (le_of ⟨rfl, rfl, rfl, trivial⟩) (fun _ s => s)
      refine ⟨by omega, fun i hi => ?_⟩
      rcases Nat.lt_or_ge i k with h' | h'
      · exact hno i h'
      · obtain rfl : i = k := by omega
        simpa using c26
  · refine cExit (xExitThen (xExitThen (xExitBlock (xThen ?_))))
    have hke : k = ways.length := by simp at c11; omega
    subst hke
    refine cReg (tQ rfl (qMove rfl) (tQ rfl (qMove rfl) (tQ rfl (qNil rfl) (tQ rfl (qFieldAddr Tryd.runUnderlying152 rfl Tryd.sizeOf50 rfl rfl rfl) (tQ rfl (qLd1M 0 Tryd.isAgg50 rfl rfl rfl) (tQ rfl (qMove rfl) (tBuildSlice rfl Tryd.runUnderlying50 Tryd.sizeOf24 Tryd.zeroValue24 rfl rfl rfl rfl (cs := [_]) fun b33 => (tAppend (bytes := 24) 2 rfl Tryd.runUnderlying50 Tryd.sizeOf24 Tryd.typeInfo24 rfl Tryd.zeroValue24 rfl Tryd.runUnderlying50 rfl rfl rfl rfl rfl hAw (by simp [hwvl]) rfl (by simp [Value.oneCell']) (fun w' s' => reads_blk 0 rfl rfl s') (by omega) fun A34 c34 h34 => (tQ rfl (qNil rfl) (tQ rfl (qFieldAddr Tryd.runUnderlying152 rfl Tryd.sizeOf50 rfl rfl rfl) (tStore1 1 Tryd.sizeOf50 rfl rfl rfl rfl (by simp) ?_)))))))))))
    refine tEnd (xEnd0 Tryd.results129 ?_)
    intro w' s'
    rw [addW_new hno, List.length_append, List.length_singleton]
    exact ⟨F, _, ⟨rfl, rfl, A34, c34, _, hw.snoc hhl hh, h34, rfl⟩, s'.less (.cons _ (.refl _))⟩

end Go.V
namespace Go.V
open Go.Proofs
set_option linter.unusedVariables false
set_option linter.unusedSimpArgs false

theorem build152 (vs : List (Nat × Value)) (cs : List Value) (w : World) (h : Instr.fill (fun i => ([(0, 3), (3, 1), (4, 1), (5, 1), (6, 1), (7, 1), (8, 1), (9, 1), (10, 1)] : List (Nat × Nat))[i]?) ([.slice none 0 0, .slice none 0 0, .bool false, .string ⟨#[]⟩, .slice none 0 0, .slice none 0 0, .slice none 0 0, .slice none 0 0, .int .i64 0, .slice none 0 0, .slice none 0 0] : List Value).toArray vs = some cs.toArray) : (Instr.build 152 vs.toArray).run Tryd.prog w = .ok (.agg cs.toArray) w := by
  have hz : ∀ w, (zeroValue 152).run Tryd.prog w = .ok (.agg #[.slice none 0 0, .slice none 0 0, .bool false, .string ⟨#[]⟩, .slice none 0 0, .slice none 0 0, .slice none 0 0, .slice none 0 0, .int .i64 0, .slice none 0 0, .slice none 0 0]) w := Tryd.zeroValue152
  simp only [Instr.build, Sem.run_bind, hz, Tryd.runUnderlying152, Result.andThen_ok]
  simp [Tryd.sizeOf3, Tryd.sizeOf9, Tryd.sizeOf24, Tryd.sizeOf31, Tryd.sizeOf50, Tryd.sizeOf65, Tryd.sizeOf72]
  simp only [Value.cells]
  rw [h]
  rfl
/-- What `Lay` hands over. -/
structure LayP (A B : Option Addr) (n m cA cB : Nat) (p : Prg) (s : ByteArray) (F : Hp) (M : List Chunk) (v : Value) (F' : Hp) (M' : List Chunk) : Prop where
  sub : Sub F F'
  out : ∃ bw br AU cU AP cP, v = .pointer (some ⟨bw, 0, none⟩) ∧ M' = blk bw [.slice A n cA, .slice B m cB, .bool p.raw, .string s, (.slice AU (mU p.raw s).length cU), (.slice AP ((mU p.raw s).length + 1) cP), (.slice none 0 0), (.slice (some ⟨br, 0, none⟩) 65 65), .int .i64 (rankOf (mkOf p.insts) 65 : Nat), (.slice none 0 0), (.slice none 0 0)] 152 :: M ∧ RdI F' .i32 AU (mU p.raw s).length (mU p.raw s) ∧ RdI F' .i64 AP ((mU p.raw s).length + 1) (mP p.raw s) ∧
    ∀ l, l ≤ 64 → mkOf p.insts l = true → at1 F' br (0 + l * 1) = some (.int .i64 (rankOf (mkOf p.insts) l : Nat))
theorem lay_ {F : Hp} {M : List Chunk} {w0 w : World} {A B : Option Addr} {n m cA cB : Nat} {p : Prg} {s : ByteArray} (s0 : WS F M w0 w) (hi : RdP F A n p.insts) (hn : 0 < n ∧ n ≤ 20000) (hmk : ∀ k, k < n → (gI p.insts k).op = 5 → 0 ≤ (gI p.insts k).n ∧ (gI p.insts k).n ≤ 63) (hsz : s.size ≤ 1000000000) :
    Calls Tryd.prog 85 [.agg #[.slice A n cA, .slice B m cB, .bool p.raw], .string s].toArray w (fun e w' => ∃ v, e = .returned v ∧ ∃ F' M', LayP A B n m cA cB p s F M v F' M' ∧ WS F' M' w0 w') := by
  have hml := mU_len p.raw s
  have hpl := mP_len p.raw s
  refine Calls.mono (enterG (R := fun v w' => ∃ F' M', LayP A B n m cA cB p s F M v F' M' ∧ WS F' M' w0 w') 67 Tryd.func85 Tryd.ntmps85 rfl rfl s0 ?_) (fun e w' ⟨v, h1, h2⟩ => ⟨v, h1, h2⟩)
  refine cSeq (cReg (tBox rfl rfl rfl (cs := [_, _, _]) fun b2 => (tQ rfl (qAssign rfl) (tEnd (xThen (cSeq (cReg (tQ rfl (qLdNM 0 Tryd.isAgg31 Tryd.sizeOf31 rfl rfl rfl rfl) (tQ rfl (qMove rfl) (tQ rfl (qBuildS build152 rfl rfl) (tBox rfl rfl rfl (cs := [_, _, _, _, _, _, _, _, _, _, _]) fun b10 => (tQ rfl (qAssign rfl) (tEnd (xThen ?_))))))))))))))
  refine cCut (⟨fun (⟨F9, AU, cU, AP, cP⟩ : Hp × Option Addr × Nat × Option Addr × Nat) => [(5, .pointer (some ⟨b10, 0, none⟩))], fun (⟨F9, AU, cU, AP, cP⟩ : Hp × Option Addr × Nat × Option Addr × Nat) => F9, fun (⟨F9, AU, cU, AP, cP⟩ : Hp × Option Addr × Nat × Option Addr × Nat) => blk b10 [.slice A n cA, .slice B m cB, .bool p.raw, .string s, (.slice AU (mU p.raw s).length cU), (.slice AP ((mU p.raw s).length + 1) cP), (.slice none 0 0), (.slice none 0 0), .int .i64 0, (.slice none 0 0), (.slice none 0 0)] 152 :: blk b2 [.slice A n cA, .slice B m cB, .bool p.raw] 31 :: M, fun (⟨F9, AU, cU, AP, cP⟩ : Hp × Option Addr × Nat × Option Addr × Nat) => Sub F F9 ∧ RdI F9 .i32 AU (mU p.raw s).length (mU p.raw s) ∧ RdI F9 .i64 AP ((mU p.raw s).length + 1) (mP p.raw s), fun (⟨F9, AU, cU, AP, cP⟩ : Hp × Option Addr × Nat × Option Addr × Nat) => 0⟩ : LI (Hp × Option Addr × Nat × Option Addr × Nat)) ?_ ?_
  · refine cSeq (cReg (tQ rfl (qFieldAddr Tryd.runUnderlying31 rfl Tryd.sizeOf4 rfl rfl rfl) (tQ rfl (qLd1M 1 Tryd.isAgg4 rfl rfl rfl) (tQ rfl (qNot rfl) (tEnd (xThen ?_))))))
    refine cIf rfl (fun c13 => ?_) (fun c13 => ?_)
    · have hraw : p.raw = false := by simpa using c13
      have hlf : (mU p.raw s).length = (pairs s).length := by simp [mU, hraw, uL]
      refine cSeq (cReg (tQ rfl (qMove rfl) (tQ rfl (qMove rfl) (tCallF rfl Tryd.call120 (first := []) (captured := []) rfl rfl (Φ := UniF s) UniF.mono (fun w' s' => units01 hsz) fun v1 F1 hS1 hv1 => ?_))))
      obtain ⟨AU, cU, rfl, hU⟩ := hv1
      refine tQ rfl (qNil rfl) (tQ rfl (qFieldAddr Tryd.runUnderlying152 rfl Tryd.sizeOf72 rfl rfl rfl) (tStore1 0 Tryd.sizeOf72 rfl rfl rfl rfl (by simp) (tEnd (xThen (cReg (tQ rfl (qMove rfl) (tQ rfl (qMove rfl) (tCallF rfl Tryd.call121 (first := []) (captured := []) rfl rfl (Φ := PlaF s) PlaF.mono (fun w' s' => places01 hsz) fun v2 F2 hS2 hv2 => ?_))))))))
      obtain ⟨AP, cP, rfl, hP⟩ := hv2
      refine tQ rfl (qNil rfl) (tQ rfl (qFieldAddr Tryd.runUnderlying152 rfl Tryd.sizeOf24 rfl rfl rfl) (tStore1 0 Tryd.sizeOf24 rfl rfl rfl rfl (by simp) (tEnd ?_)))
      refine xMeet _ (F2, AU, cU, AP, cP) ?_ (le_of ⟨rfl, trivial⟩) (fun _ sw => by rw [hlf]; exact sw)
      refine ⟨hS1.trans hS2, ?_, ?_⟩
      · rw [hlf]; have := hU.mono ((from_sub _ _).trans hS2); simpa [mU, hraw] using this
      · rw [hlf]; have := hP.mono (from_sub _ _); simpa [mP, hraw] using this
    · have hraw : p.raw = true := by simpa using c13
      have hl : (mU p.raw s).length = s.size := by simp [mU, hraw]
      refine cSeq (cSeq (cNilRow 3 1 (cNilRow 21 1 (cReg (tQ rfl (qAssign rfl) (tEnd (xThen (cBlock (cLoop (⟨fun (⟨k, U, cU, P, cP⟩ : Nat × Option Nat × Nat × Option Nat × Nat) => [(1, .string s), (5, .pointer (some ⟨b10, 0, none⟩)), (6, .int .i64 k)], fun (⟨k, U, cU, P, cP⟩ : Nat × Option Nat × Nat × Option Nat × Nat) => F, fun (⟨k, U, cU, P, cP⟩ : Nat × Option Nat × Nat × Option Nat × Nat) => row U cU 21 1 ((List.range k).map fun i => .int .i32 (Go.V.B s i : Nat)) :: row P cP 3 1 ((List.range k).map fun i => .int .i64 (i : Nat)) :: blk b10 [.slice A n cA, .slice B m cB, .bool p.raw, .string s, (rowV U k cU), (rowV P k cP), (.slice none 0 0), (.slice none 0 0), .int .i64 0, (.slice none 0 0), (.slice none 0 0)] 152 :: blk b2 [.slice A n cA, .slice B m cB, .bool p.raw] 31 :: M, fun (⟨k, U, cU, P, cP⟩ : Nat × Option Nat × Nat × Option Nat × Nat) => k ≤ s.size ∧ (U = none → cU = 0 ∧ k = 0) ∧ (P = none → cP = 0 ∧ k = 0), fun (⟨k, U, cU, P, cP⟩ : Nat × Option Nat × Nat × Option Nat × Nat) => s.size - k⟩ : LI (Nat × Option Nat × Nat × Option Nat × Nat)) (loopStart _ (0, none, 0, none, 0) ⟨Nat.zero_le _, fun _ => ⟨rfl, rfl⟩, fun _ => ⟨rfl, rfl⟩⟩ (le_of ⟨rfl, rfl, rfl, trivial⟩) (fun _ s => s)) ?_)))))))))
      rintro ⟨k, U, cU, P, cP⟩ ⟨hk, hU, hP⟩
      refine cSeq (cSeq (cReg (tQ rfl (qMove rfl) (tQ rfl (qMove rfl) (tQ rfl (qLenStr Tryd.runUnderlying9 rfl rfl) (tQ rfl (qLt rfl rfl) (tEnd (xThen ?_))))))))
      refine cIf rfl (fun c27 => ?_) (fun c27 => ?_)
      · refine cSkip (xThen (cSeq (cBlock (cSeq ?_))))
        have hlt : k < s.size := by simp at c27; omega
        have hb := B_lt s k
        refine cDraw (row P cP 3 1 ((List.range k).map fun i => .int .i64 (i : Nat)) :: blk b10 [.slice A n cA, .slice B m cB, .bool p.raw, .string s, (rowV U k cU), (rowV P k cP), (.slice none 0 0), (.slice none 0 0), .int .i64 0, (.slice none 0 0), (.slice none 0 0)] 152 :: blk b2 [.slice A n cA, .slice B m cB, .bool p.raw] 31 :: M) 13 [(0, true), (1, true), (2, true), (3, true), (4, true), (5, true), (6, true), (7, true), (8, true), (9, false), (10, false), (11, true), (12, true)] Tryd.mixed (by kernel_rfl) (fun _ _ _ _ _ h => h) (dQ rfl rfl (qMove rfl) (fun _ s => s.less (.cons _ (.refl _))) (dQ rfl rfl (qMove rfl) (fun _ s => s.less (.cons _ (.refl _))) (dQ rfl rfl (qNil rfl) (fun _ s => s.less (.cons _ (.refl _))) (dQ rfl rfl (qFieldAddr Tryd.runUnderlying152 rfl Tryd.sizeOf72 rfl rfl rfl) (fun _ s => s.less (.cons _ (.refl _))) (dQ rfl rfl (qLd1M 1 Tryd.isAgg72 rfl rfl rfl) (fun _ s => s.less (.cons _ (.refl _))) (dQ rfl rfl (qMove rfl) (fun _ s => s.less (.cons _ (.refl _))) (dQ rfl rfl (qMove rfl) (fun _ s => s.less (.cons _ (.refl _))) (dQ rfl rfl (qIdxStrB Tryd.runUnderlying9 rfl rfl (j := k) (by omega) (by omega)) (fun _ s => s.less (.cons _ (.refl _))) (dQ rfl rfl (qConv Tryd.runUnderlying5 Tryd.runUnderlying21 rfl (w32 (by omega) (by omega))) (fun _ s => s.less (.cons _ (.refl _))) (dBuildSlice rfl rfl Tryd.runUnderlying72 Tryd.sizeOf21 Tryd.zeroValue21 rfl rfl rfl rfl (cs := [_]) (fun _ _ s => s.less (.cons _ (.cons _ (.refl _)))) fun b39 => (dAppend (bytes := 4) 1 rfl rfl Tryd.runUnderlying72 Tryd.sizeOf21 Tryd.typeInfo21 rfl Tryd.zeroValue21 rfl Tryd.runUnderlying72 rfl rfl rfl rfl rfl hU (by simp) rfl (by simp [Value.oneCell']) (fun w' s' => reads_blk 0 rfl rfl s') (by omega) (fun _ _ _ s => s.less (.cons _ (.cons _ (.refl _)))) fun A40 c40 h40 => ?_)))))))))))
        refine dQ rfl rfl (qNil rfl) (fun _ s => s.less (.cons _ (.cons _ (.refl _)))) (dQ rfl rfl (qFieldAddr Tryd.runUnderlying152 rfl Tryd.sizeOf72 rfl rfl rfl) (fun _ s => s.less (.cons _ (.cons _ (.refl _)))) (dEnd (tStore1 3 Tryd.sizeOf72 rfl rfl rfl rfl (by simp) (tEnd (xThen (cReg (tQ rfl (qMove rfl) (tQ rfl (qMove rfl) (tQ rfl (qNil rfl) (tQ rfl (qFieldAddr Tryd.runUnderlying152 rfl Tryd.sizeOf24 rfl rfl rfl) (tQ rfl (qLd1M 3 Tryd.isAgg24 rfl rfl rfl) (tQ rfl (qMove rfl) (tBuildSlice rfl Tryd.runUnderlying24 Tryd.sizeOf3 Tryd.zeroValue3 rfl rfl rfl rfl (cs := [_]) fun b49 => ?_)))))))))))))
        refine tAppend (bytes := 8) 3 rfl Tryd.runUnderlying24 Tryd.sizeOf3 Tryd.typeInfo3 rfl Tryd.zeroValue3 rfl Tryd.runUnderlying24 rfl rfl rfl rfl rfl hP (by simp) rfl (by simp [Value.oneCell']) (fun w' s' => reads_blk 0 rfl rfl s') (by omega) fun A50 c50 h50 => (tQ rfl (qNil rfl) (tQ rfl (qFieldAddr Tryd.runUnderlying152 rfl Tryd.sizeOf24 rfl rfl rfl) (tStore1 4 Tryd.sizeOf24 rfl rfl rfl rfl (by simp) (tEnd (xBlock (xThen (cReg (tQ rfl (qMove rfl) (tQ rfl (qAdd rfl rfl (w64 (by omega) (by omega))) (tQ rfl (qAssign rfl) (tEnd ?_)))))))))))
        refine xRound _ (k + 1, A40, c40, A50, c50) ?_ (by dsimp only; omega) (le_of ⟨rfl, rfl, rfl, trivial⟩) (fun _ s => by simpa [List.range_succ] using s.less (.cons _ (.cons _ (.refl _))))
        exact ⟨hlt, h40, h50⟩
      · refine cExit (xExitThen (xExitThen (xExitBlock (xThen ?_))))
        have hke : k = s.size := by simp at c27; omega
        subst hke
        refine cReg (tQ rfl (qMove rfl) (tQ rfl (qMove rfl) (tQ rfl (qNil rfl) (tQ rfl (qFieldAddr Tryd.runUnderlying152 rfl Tryd.sizeOf24 rfl rfl rfl) (tQ rfl (qLd1M 2 Tryd.isAgg24 rfl rfl rfl) (tQ rfl (qMove rfl) (tQ rfl (qLenStr Tryd.runUnderlying9 rfl rfl) (tBuildSlice rfl Tryd.runUnderlying24 Tryd.sizeOf3 Tryd.zeroValue3 rfl rfl rfl rfl (cs := [_]) fun b60 => (tAppend (bytes := 8) 2 rfl Tryd.runUnderlying24 Tryd.sizeOf3 Tryd.typeInfo3 rfl Tryd.zeroValue3 rfl Tryd.runUnderlying24 rfl rfl rfl rfl rfl hP (by simp) rfl (by simp [Value.oneCell']) (fun w' s' => reads_blk 0 rfl rfl s') (by omega) fun A61 c61 h61 => (tQ rfl (qNil rfl) (tQ rfl (qFieldAddr Tryd.runUnderlying152 rfl Tryd.sizeOf24 rfl rfl rfl) ?_)))))))))))
        refine tStore1 3 Tryd.sizeOf24 rfl rfl rfl rfl (by simp) (tEnd (xFreeze 2 rfl fun FP hSP hAP hNP => (xFreeze 1 rfl fun FU hSU hAU hNU => ?_)))
        refine xMeet _ (FU, U.map (fun b => ⟨b, 0, none⟩), cU, A61.map (fun b => ⟨b, 0, none⟩), c61) ?_ (le_of ⟨rfl, trivial⟩) (fun _ sw => by rw [hl]; exact sw.less (.cons _ (.refl _)))
        refine ⟨hSP.trans hSU, ?_, ?_⟩
        · rw [hl]
          refine rdI_row (cap := cU) (e := 21) ?_ hl (fun e => (hU e).2)
          simpa [mU, hraw, Function.comp_def] using hAU
        · rw [hl]
          refine rdI_row (cap := c61) (e := 3) ?_ (by simp [mP, hraw]) (fun e => (h61 e).2)
          have := hAP.mono hSU
          simpa [mP, hraw, List.range_succ, Function.comp_def] using this
  · rintro ⟨F9, AU, cU, AP, cP⟩ ⟨hs1, hUU, hPP⟩
    refine cSeq (cReg (tQ rfl (qMove rfl) (tCallG rfl Tryd.call122 (first := []) (captured := []) rfl rfl (fun w' s' => levels_ (s'.less (.cons_cons _ (.cons _ (.refl _)))) (hi.mono hs1) hn hmk) fun v F3 M3 hP => ?_)))
    obtain ⟨rfl, rfl, br, rfl⟩ := hP
    refine tEnd (xThen (cSeq (cReg (tQ rfl (qMove rfl) (tQ rfl (qAssign rfl) (tEnd (xThen (cRet (xFreeze 0 rfl fun FE hSE hAE hNE => ?_)))))))))
    refine xRet1 _ Tryd.results85 rfl fun w' s' => ⟨FE, _, ⟨hs1.trans hSE, b10, br, AU, cU, AP, cP, rfl, rfl, hUU.mono hSE, hPP.mono hSE, fun l hl hm => blk_at1 hAE (by rw [Nat.zero_add, Nat.mul_one]; exact rnkC_done (by omega) hm)⟩, s'⟩

end Go.V
namespace Go.V
open Go.Proofs
set_option linter.unusedVariables false
set_option linter.unusedSimpArgs false

theorem build198 (vs : List (Nat × Value)) (cs : List Value) (w : World) (h : Instr.fill (fun i => ([(0, 1), (1, 1), (2, 1), (3, 1)] : List (Nat × Nat))[i]?) ([.int .i64 0, .int .i64 0, .int .i64 0, .slice none 0 0] : List Value).toArray vs = some cs.toArray) : (Instr.build 198 vs.toArray).run Tryd.prog w = .ok (.agg cs.toArray) w := by
  have hz : ∀ w, (zeroValue 198).run Tryd.prog w = .ok (.agg #[.int .i64 0, .int .i64 0, .int .i64 0, .slice none 0 0]) w := Tryd.zeroValue198
  simp only [Instr.build, Sem.run_bind, hz, Tryd.runUnderlying198, Result.andThen_ok]
  simp [Tryd.sizeOf3, Tryd.sizeOf24]
  simp only [Value.cells]
  rw [h]
  rfl
/-- What a run of the reference leaves. -/
structure FromR (x : WQ) (g : Nat) (C0 : Value → Value → Value → Chunk) (F : Hp) (M : List Chunk) (v : Value) (F' : Hp) (M' : List Chunk) : Prop where
  ret : v = .tuple #[]
  sub : Sub F F'
  out : ∃ vb Aw cw wv Aq cq, WvOk F' (2 * g + 2) x.1 wv ∧ (Aw = none → cw = 0 ∧ x.1.length = 0) ∧ (Aq = none → cq = 0 ∧ x.2.length = 0) ∧ M' = C0 vb (rowV Aw x.1.length cw) (rowV Aq x.2.length cq) :: row Aw cw 24 1 wv :: row Aq cq 3 1 (x.2.map fun y => .int .i64 (y : Nat)) :: M
set_option maxHeartbeats 4000000 in
theorem fromR_ {F : Hp} {M : List Chunk} {w0 w : World} {bw br n cI cN cU cP k : Nat} {AI BN AU AP : Option Addr} {vb vw vq : Value} {raw rw2 : Bool} {p : Prg} {m : Mach} (s0 : WS F (blk bw [.slice AI n cI, .slice BN p.names.length cN, .bool raw, .string m.text, .slice AU m.us.length cU, .slice AP m.ps.length cP, vb, .slice (some ⟨br, 0, none⟩) 65 65, .int .i64 (rankOf (mkOf p.insts) 65 : Nat), vw, vq] 152 :: M) w0 w) (hm : m.ins = p.insts) (hi : RdP F AI n p.insts) (hn : 0 < n ∧ n ≤ 20000) (hg : p.names.length ≤ 40)
    (hck : ∀ i, i < n → instOk (gI p.insts i) n p.names.length rw2) (hU : RdW F M w0 .i32 AU m.us) (hP : RdW F M w0 .i64 AP m.ps) (hps : m.ps.length = m.us.length + 1) (hpl : m.ps.length ≤ 2000001) (hk : k < m.ps.length)
    (hrk : ∀ l, l ≤ 64 → mkOf p.insts l = true → at1 F br (0 + l * 1) = some (.int .i64 (rankOf (mkOf p.insts) l : Nat))) (hlook : ∀ i, i < n → (gI p.insts i).op = 4 → ∀ b, b < m.ps.length → ∃ q : Nat, gZ m.ps b = (q : Int) ∧ q ≤ m.text.size) (htxt : m.text.size ≤ 1000000000) :
    Calls Tryd.prog 90 [.pointer (some ⟨bw, 0, none⟩), .int .i64 k].toArray w (fun e w' => ∃ v, e = .returned v ∧ ∃ F' M', FromR (refR (evs m noV [startM m p.names.length k])) p.names.length (fun vb vw vq => blk bw [.slice AI n cI, .slice BN p.names.length cN, .bool raw, .string m.text, .slice AU m.us.length cU, .slice AP m.ps.length cP, vb, .slice (some ⟨br, 0, none⟩) 65 65, .int .i64 (rankOf (mkOf p.insts) 65 : Nat), vw, vq] 152) F M v F' M' ∧ WS F' M' w0 w') := by
  obtain ⟨r, hr⟩ : ∃ r, evs m noV [startM m p.names.length k] = r := ⟨_, rfl⟩
  rw [hr]
  have hil := hi.len
  obtain ⟨bP, oP, rfl, hPa⟩ := hP (by omega)
  obtain ⟨bI, oI, rfl, hIa⟩ := hi.at_ (by omega)
  have hroom := roomM_le (m := m) (by rw [hm]; omega) hpl
  refine Calls.mono (enterG (R := fun v w' => ∃ F' M', FromR (refR r) p.names.length (fun vb vw vq => blk bw [.slice (some ⟨bI, oI, none⟩) n cI, .slice BN p.names.length cN, .bool raw, .string m.text, .slice AU m.us.length cU, .slice (some ⟨bP, oP, none⟩) m.ps.length cP, vb, .slice (some ⟨br, 0, none⟩) 65 65, .int .i64 (rankOf (mkOf p.insts) 65 : Nat), vw, vq] 152) F M v F' M' ∧ WS F' M' w0 w') 223 Tryd.func90 Tryd.ntmps90 rfl rfl s0 ?_) (fun e w' ⟨v, h1, h2⟩ => ⟨v, h1, h2⟩)
  refine cSeq (cReg (tQ rfl (qMove rfl) (tQ rfl (qMove rfl) (tQ rfl (qNil rfl) (tQ rfl (qFieldAddr Tryd.runUnderlying152 rfl Tryd.sizeOf24 rfl rfl rfl) (tQ rfl (qLd1M 0 Tryd.isAgg24 rfl rfl rfl) (tQ rfl (qLen Tryd.runUnderlying24 rfl rfl) (tMake (bytes := 24) rfl Tryd.runUnderlying65 Tryd.typeInfo185 rfl Tryd.sizeOf185 Tryd.zeroValue185 rfl rfl rfl (k := m.ps.length) (c := m.ps.length) (by omega) (by omega) (by omega) (by omega) (by omega) fun b16 => (tQ rfl (qNil rfl) (tQ rfl (qFieldAddr Tryd.runUnderlying152 rfl Tryd.sizeOf65 rfl rfl rfl) (tStore1 1 Tryd.sizeOf65 rfl rfl rfl rfl (by simp) (tEnd (xThen (cSeq (cReg ?_)))))))))))))))
  refine tQ rfl (qMove rfl) (tQ rfl (qNil rfl) (tQ rfl (qFieldAddr Tryd.runUnderlying152 rfl Tryd.sizeOf50 rfl rfl rfl) (tStore1 1 Tryd.sizeOf50 rfl rfl rfl rfl (by simp) (tEnd (xThen (cSeq (cReg (tQ rfl (qMove rfl) (tQ rfl (qNil rfl) (tQ rfl (qFieldAddr Tryd.runUnderlying152 rfl Tryd.sizeOf24 rfl rfl rfl) (tStore1 1 Tryd.sizeOf24 rfl rfl rfl rfl (by simp) (tEnd (xThen (cSeq (cReg (tQ rfl (qMove rfl) (tQ rfl (qNil rfl) ?_)))))))))))))))))
  refine tQ rfl (qFieldAddr Tryd.runUnderlying152 rfl Tryd.sizeOf31 rfl rfl rfl) (tQ rfl (qFieldAddr Tryd.runUnderlying31 rfl Tryd.sizeOf29 rfl rfl rfl) (tQ rfl (qLd1M 1 Tryd.isAgg29 rfl rfl rfl) (tQ rfl (qLen Tryd.runUnderlying29 rfl rfl) (tQ rfl (qMul rfl rfl (w64 (by omega) (by omega))) (tQ rfl (qAdd rfl rfl (w64 (by omega) (by omega))) (tMake (bytes := 8) rfl Tryd.runUnderlying24 Tryd.typeInfo3 rfl Tryd.sizeOf3 Tryd.zeroValue3 rfl rfl rfl (k := 2 * p.names.length + 2) (c := 2 * p.names.length + 2) (by omega) (by omega) (by omega) (by omega) (by omega) fun b33 => (tQ rfl (qAssign rfl) (tEnd (xThen (cSeq (cSeq (cReg (tQ rfl (qAssign rfl) (tEnd (xThen (cBlock (cLoop (⟨fun (i : Nat) => [(0, .pointer (some ⟨bw, 0, none⟩)), (1, .int .i64 k), (4, .slice (some ⟨b33, 0, none⟩) (2 * p.names.length + 2) (2 * p.names.length + 2)), (5, .int .i64 i)], fun (i : Nat) => F, fun (i : Nat) => blk b33 (List.replicate i (.int .i64 (-1)) ++ List.replicate (2 * p.names.length + 2 - i) (.int .i64 0)) 3 :: blk b16 (zcells [.slice none 0 0] m.ps.length) 185 :: blk bw [.slice (some ⟨bI, oI, none⟩) n cI, .slice BN p.names.length cN, .bool raw, .string m.text, .slice AU m.us.length cU, .slice (some ⟨bP, oP, none⟩) m.ps.length cP, (.slice (some ⟨b16, 0, none⟩) m.ps.length m.ps.length), .slice (some ⟨br, 0, none⟩) 65 65, .int .i64 (rankOf (mkOf p.insts) 65 : Nat), (.slice none 0 0), (.slice none 0 0)] 152 :: M, fun (i : Nat) => i ≤ 2 * p.names.length + 2, fun (i : Nat) => 2 * p.names.length + 2 - i⟩ : LI (Nat)) (loopStart _ 0 (Nat.zero_le _) (le_of ⟨rfl, rfl, rfl, rfl, trivial⟩) (fun _ s => by have s : WS _ (blk b33 (zcells [.int .i64 0] (2 * p.names.length + 2)) 3 :: _) _ _ := s; rw [zcells_one] at s; exact s)) ?_)))))))))))))))))
  rintro i hi2
  refine cSeq (cSeq (cReg (tQ rfl (qMove rfl) (tQ rfl (qMove rfl) (tQ rfl (qLen Tryd.runUnderlying24 rfl rfl) (tQ rfl (qLt rfl rfl) (tEnd (xThen ?_))))))))
  refine cIf rfl (fun c37 => ?_) (fun c37 => ?_)
  · refine cSkip (xThen (cSeq (cBlock ?_)))
    have hlt : i < 2 * p.names.length + 2 := by simp at c37; omega
    refine cReg (tQ rfl (qMove rfl) (tQ rfl (qMove rfl) (tQ rfl (qIdxAddr Tryd.runUnderlying24 Tryd.sizeOf3 rfl rfl rfl (by omega)) (tStore1 0 Tryd.sizeOf3 rfl rfl rfl rfl (by simp; omega) (tEnd (xBlock (xThen (cReg (tQ rfl (qMove rfl) (tQ rfl (qAdd rfl rfl (w64 (by omega) (by omega))) (tQ rfl (qAssign rfl) (tEnd ?_))))))))))))
    refine xRound _ (i + 1) ?_ (by dsimp only; omega) (le_of ⟨rfl, rfl, rfl, rfl, trivial⟩) (fun _ s => by have s : WS _ (blk b33 ((List.replicate i (Value.int .i64 (-1)) ++ List.replicate (2 * p.names.length + 2 - i) (Value.int .i64 0)).set (0 + i * 1) (Value.int .i64 (-1))) 3 :: _) _ _ := s; rw [fill_set hlt] at s; exact s)
    omega
  · refine cExit (xExitThen (xExitThen (xExitBlock (xThen (cSeq ?_)))))
    have hke : i = 2 * p.names.length + 2 := by simp at c37; omega
    subst hke
    refine cFreeze 0 rfl fun FS hSS hAS hNS => ?_
    have hRS : RdI FS .i64 (some ⟨b33, 0, none⟩) (2 * p.names.length + 2) (List.replicate (2 * p.names.length + 2) (-1 : Int)) := rdI_blk (e := 3) (by simpa using hAS) (by simp)
    refine cReg (tQ rfl (qMove rfl) (tQ rfl (qMove rfl) (tQ rfl (qMove rfl) (tQ rfl (qNil rfl) (tQ rfl (qFieldAddr Tryd.runUnderlying152 rfl Tryd.sizeOf24 rfl rfl rfl) (tQ rfl (qLd1M 1 Tryd.isAgg24 rfl rfl rfl) (tQ rfl (qMove rfl) (tQ rfl (qIdxAddr Tryd.runUnderlying24 Tryd.sizeOf3 rfl rfl rfl (by omega)) (tQ rfl (qLd1W Tryd.isAgg3 rfl (fun w s => hPa w (s.tail (X := [_, _]) hSS) k (by omega))) (tCallO rfl Tryd.call125 (first := []) (captured := []) rfl rfl (Φ := fun v C => ∃ b cap, v = rowV (some b) (2 * p.names.length + 2) cap ∧ C = [row (some b) cap 3 1 ((((List.replicate (2 * p.names.length + 2) (-1 : Int)).set 0 (gZ m.ps k))).map (.int .i64 ·))]) (fun w' s' => noted_ (F := FS) (k := 0) s'.sub hRS (by omega) (by omega)) fun v C hΦ => ?_))))))))))
    obtain ⟨b52, c52, rfl, rfl⟩ := hΦ
    refine tFreeze 0 rfl fun FA hSA hAA hNA => (tQ rfl (qBuildS build198 (cs := [_, _, _, _]) rfl rfl) (tBuildSlice rfl Tryd.runUnderlying199 Tryd.sizeOf198 Tryd.zeroValue198 rfl rfl rfl rfl (cs := [_, _, _, _]) fun b54 => (tQ rfl (qAssign rfl) (tEnd (xThen (cBlock (cLoop (⟨fun (⟨F1, T, V, stk, A, cap, W, wv, Aw, cw, Aq, cq⟩ : RSt) => [(0, .pointer (some ⟨bw, 0, none⟩)), (6, rowV (some A) stk.length cap)], fun (⟨F1, T, V, stk, A, cap, W, wv, Aw, cw, Aq, cq⟩ : RSt) => F1, fun (⟨F1, T, V, stk, A, cap, W, wv, Aw, cw, Aq, cq⟩ : RSt) => blk bw [.slice (some ⟨bI, oI, none⟩) n cI, .slice BN p.names.length cN, .bool raw, .string m.text, .slice AU m.us.length cU, .slice (some ⟨bP, oP, none⟩) m.ps.length cP, (.slice (some ⟨b16, 0, none⟩) m.ps.length m.ps.length), .slice (some ⟨br, 0, none⟩) 65 65, .int .i64 (rankOf (mkOf p.insts) 65 : Nat), (rowV Aw W.1.length cw), (rowV Aq W.2.length cq)] 152 :: blk b16 (T.map tblV) 185 :: row (some A) cap 198 4 (stk.flatMap tc) :: row Aw cw 24 1 wv :: row Aq cq 3 1 (W.2.map fun y => .int .i64 (y : Nat)) :: (T.map tblC ++ M), fun (⟨F1, T, V, stk, A, cap, W, wv, Aw, cw, Aq, cq⟩ : RSt) => ROk F m p r ⟨F1, T, V, stk, A, cap, W, wv, Aw, cw, Aq, cq⟩, fun (⟨F1, T, V, stk, A, cap, W, wv, Aw, cw, Aq, cq⟩ : RSt) => 3 * unvis m V + stk.length⟩ : LI (RSt)) (loopStart _ (RSt.mk FA (List.replicate m.ps.length (none, [])) noV [(startM m p.names.length k, rowV (some b52) (2 * p.names.length + 2) c52)] b54 1 ([], []) [] none 0 none 0) (start_okR hr (hSS.trans hSA) hk (by omega) hAA) (le_of ⟨rfl, rfl, trivial⟩) (fun _ s => s.begin_ rfl)) ?_)))))))
    rintro ⟨F1, T, V, stk, A, cap, W, wv, Aw, cw, Aq, cq⟩ hB
    have hB0 := hB
    obtain ⟨hsub, htbl, hstk, hrun, hwv, haw, haq, hlen, hl1, hl2⟩ := hB
    dsimp only at hsub htbl hstk hrun hwv haw haq hlen hl1 hl2
    refine cSeq (cSeq (cReg (tQ rfl (qMove rfl) (tQ rfl (qLen Tryd.runUnderlying199 rfl rfl) (tQ rfl (qGt rfl rfl) (tEnd (xThen ?_)))))))
    refine cIf rfl (fun c57 => ?_) (fun c57 => ?_)
    · refine cSkip (xThen (cBlock (cSeq ?_)))
      obtain ⟨stk', x, rfl⟩ : ∃ l x, stk = l ++ [x] := by
        rcases List.eq_nil_or_concat stk with h | ⟨l, x, h⟩
        · subst h; simp at c57
        · exact ⟨l, x, by simpa using h⟩
      have hx := hstk x (by simp)
      obtain ⟨⟨a, bd', lv, sl⟩, vv⟩ := x
      obtain ⟨hkey, hsll, Av, cv, hvv, hsr⟩ := hx
      dsimp only at hsll hvv hsr
      subst hvv
      have hkey : KeyOk p.insts.length m.ps.length 0 (mkOf p.insts) (a, bd', lv) := hkey
      have hkey1 : KeyOk n m.ps.length 0 (mkOf p.insts) (a, bd', lv) := by rw [← hil]; exact hkey
      have hsl1 : (stk' ++ [((⟨a, bd', lv, sl⟩ : Thr), Value.slice Av (2 * p.names.length + 2) cv)]).length = stk'.length + 1 := by simp
      have ha : a < n := hkey1.at_
      have hbhi : bd' < 0 + m.ps.length := hkey.hi
      have hbp : bd' < m.ps.length := by omega
      have hlv : lv ≤ 64 := hkey.lv
      refine cFact (φ := stk'.length + 1 ≤ cap) (fun _ s => by
        obtain ⟨sp, _, h2⟩ := row_at (s.get 2 rfl) rfl
        rw [List.length_append, flat_len] at h2
        simp only [List.length_append, List.length_singleton] at h2
        omega) fun hcapS => ?_
      refine cReg (tQ rfl (qMove rfl) (tQ rfl (qMove rfl) (tQ rfl (qLen Tryd.runUnderlying199 rfl rfl) (tQ rfl (qSub rfl rfl (c := ((stk'.length : Nat) : Int)) (by rw [w64 (by omega) (by omega)]; omega)) (tQ rfl (qIdxAddr Tryd.runUnderlying199 Tryd.sizeOf198 rfl rfl rfl (by omega)) (tQ rfl (qLdNRow 2 Tryd.isAgg198 Tryd.sizeOf198 rfl rfl (vs := [.int .i64 a, .int .i64 bd', .int .i64 lv, .slice Av (2 * p.names.length + 2) cv]) (by rw [flat_len]; omega) (flat_last _ _)) (tAlloc rfl Tryd.zeroValue198 rfl (cs := [_, _, _, _]) fun b7 => (tStoreN 0 Tryd.sizeOf198 rfl rfl rfl (by simp [Value.oneCell']) rfl (by simp) (tEnd (xThen (cSeq (cReg (tQ rfl (qMove rfl) (tQ rfl (qMove rfl) ?_))))))))))))))
      refine tQ rfl (qLen Tryd.runUnderlying199 rfl rfl) (tQ rfl (qSub rfl rfl (c := ((stk'.length : Nat) : Int)) (by rw [w64 (by omega) (by omega)]; omega)) (tQ rfl (qSliceRow Tryd.runUnderlying199 Tryd.sizeOf198 rfl rfl rfl (by omega)) (tQ rfl (qAssign rfl) (tEnd (xThen (cSeq (cSeq (cMem _ (fun _ s => s.cutRow 3 (ys := tc (⟨a, bd', lv, sl⟩, Value.slice Av (2 * p.names.length + 2) cv)) (by simp only [flat_snoc]; rfl)) (cReg (tQ rfl (qMove rfl) (tQ rfl (qLdNM 0 Tryd.isAgg198 Tryd.sizeOf198 rfl rfl rfl rfl) (tMem _ (fun _ s => s.perm (perm_in _ _ _ _ _ _ _ _)) (tCallG rfl Tryd.call126 (first := []) (captured := []) rfl rfl (fun w' s' => before_ s' hn (fun l h1 h2 => at1_mono hsub (hrk l h1 h2)) (by rw [hil] at htbl; exact htbl) hkey1 (by omega)) fun v F' M' hP => ?_)))))))))))))
      obtain ⟨e1, e2, T2, hT2, e3⟩ := hP
      subst e1; subst e3
      obtain rfl := e2.symm
      refine tMem _ (fun _ s => s.perm (perm_out _ _ _ _ _ _ _ _)) ?_
      rw [← hil] at hT2
      refine tEnd (xThen ?_)
      refine cIf rfl (fun c71 => ?_) (fun c71 => ?_)
      · refine cExit (xExitThen (xExitBlock ?_))
        refine xRound _ (RSt.mk F1 T2 V stk' A cap W wv Aw cw Aq cq) ?_ (by dsimp only; simp only [List.length_append, List.length_singleton]; omega) (le_of ⟨rfl, (by first | rfl | simp [look]), trivial⟩) (fun _ s => s.less (.cons_cons _ (.cons_cons _ (.cons _ (.cons_cons _ (.cons_cons _ (.cons_cons _ (.refl _))))))))
        have htb : V (a, bd', lv) = true := by simpa using c71
        exact hB0.seen htb hT2
      · refine cSkip (xThen (cSeq ?_))
        have hVf : V (a, bd', lv) = false := by simpa using c71
        have hkm : (a, bd', lv) ∈ keys m := hkey1.memM (by rw [hm]; exact hil)
        have hun := unvis_add hkm hVf
        obtain ⟨Bs, ms, cs', hR, hN⟩ := hIa a ha
        replace hR := hR.mono hsub
        replace hN := atN_mono hsub hN
        have hin := hck a ha
        obtain ⟨xx, yy, nn, hxx, hyy, hnn, ho1, ho9, hX, hY, hSet, hSv, hLk, hMk⟩ := inst_nat hin
        rw [← hil] at hX hY
        rw [hxx, hyy, hnn] at hN
        have hms : ms ≤ 1000000000 := by
          have := (hi.wf _ (gI_mem (by rw [hil]; exact ha))).2.2.2.2
          rw [hR.len] at this
          have hBig : Big = 1048576 := rfl
          omega
        obtain ⟨z, hz⟩ : ∃ z, gZ m.ps bd' = z := ⟨_, rfl⟩
        refine cDrawM 10 [(0, true), (1, true), (2, true), (3, true), (4, true), (5, true), (6, true), (7, true), (8, true), (9, false)] Tryd.mixed (by kernel_rfl) (fun _ _ _ _ _ h => h) (dQ rfl rfl (qMove rfl) (fun _ s => s) (dQ rfl rfl (qNil rfl) (fun _ s => s) (dQ rfl rfl (qFieldAddr Tryd.runUnderlying152 rfl Tryd.sizeOf31 rfl rfl rfl) (fun _ s => s) (dQ rfl rfl (qFieldAddr Tryd.runUnderlying31 rfl Tryd.sizeOf28 rfl rfl rfl) (fun _ s => s) (dQ rfl rfl (qLd1M 0 Tryd.isAgg28 rfl rfl rfl) (fun _ s => s) (dQ rfl rfl (qFieldAddr Tryd.runUnderlying198 rfl Tryd.sizeOf3 rfl rfl rfl) (fun _ s => s) (dQ rfl rfl (qLd1M 2 Tryd.isAgg3 rfl rfl rfl) (fun _ s => s) (dQ rfl rfl (qIdxAddr Tryd.runUnderlying28 Tryd.sizeOf44 rfl rfl rfl (by omega)) (fun _ s => s) (dQ rfl rfl (qLdN Tryd.isAgg44 Tryd.sizeOf44 rfl hN) (fun _ s => s) (dAlloc (cs := [_, _, _, _, _]) rfl rfl Tryd.zeroValue44 rfl (fun _ _ s => s.less (.cons _ (.refl _))) fun b8 => (dEnd ?_)))))))))))
        refine tStoreN 0 Tryd.sizeOf44 rfl rfl rfl (by simp [Value.oneCell']) rfl (by simp) (tEnd (xThen (cSeq (cReg (tQ rfl (qFieldAddr Tryd.runUnderlying44 rfl Tryd.sizeOf3 rfl rfl rfl) (tQ rfl (qLd1M 0 Tryd.isAgg3 rfl rfl rfl) (tQ rfl (qFieldAddr Tryd.runUnderlying198 rfl Tryd.sizeOf3 rfl rfl rfl) (tQ rfl (qLd1M 3 Tryd.isAgg3 rfl rfl rfl) (tQ rfl (qFieldAddr Tryd.runUnderlying198 rfl Tryd.sizeOf3 rfl rfl rfl) (tQ rfl (qLd1M 3 Tryd.isAgg3 rfl rfl rfl) (tQ rfl (qFieldAddr Tryd.runUnderlying198 rfl Tryd.sizeOf24 rfl rfl rfl) (tQ rfl (qLd1M 3 Tryd.isAgg24 rfl rfl rfl) (tQ rfl (qBuildS build198 (cs := [_, _, _, _]) rfl rfl) (tAlloc rfl Tryd.zeroValue198 rfl (cs := [_, _, _, _]) fun b9 => ?_))))))))))))))
        refine tStoreN 0 Tryd.sizeOf198 rfl rfl rfl (by simp [Value.oneCell']) rfl (by simp) (tEnd (xThen ?_))
        refine cCut (⟨fun (⟨F2, t2, v2, stk2, A2, cap2⟩ : Hp × Thr × Value × List (Thr × Value) × Nat × Nat) => [(0, .pointer (some ⟨bw, 0, none⟩)), (6, rowV (some A2) stk2.length cap2), (9, .pointer (some ⟨b9, 0, none⟩))], fun (⟨F2, t2, v2, stk2, A2, cap2⟩ : Hp × Thr × Value × List (Thr × Value) × Nat × Nat) => F2, fun (⟨F2, t2, v2, stk2, A2, cap2⟩ : Hp × Thr × Value × List (Thr × Value) × Nat × Nat) => blk b9 (tc (t2, v2)) 198 :: blk bw [.slice (some ⟨bI, oI, none⟩) n cI, .slice BN p.names.length cN, .bool raw, .string m.text, .slice AU m.us.length cU, .slice (some ⟨bP, oP, none⟩) m.ps.length cP, (.slice (some ⟨b16, 0, none⟩) m.ps.length m.ps.length), .slice (some ⟨br, 0, none⟩) 65 65, .int .i64 (rankOf (mkOf p.insts) 65 : Nat), (rowV Aw W.1.length cw), (rowV Aq W.2.length cq)] 152 :: blk b16 (T2.map tblV) 185 :: row (some A2) cap2 198 4 (stk2.flatMap tc) :: row Aw cw 24 1 wv :: row Aq cq 3 1 (W.2.map fun y => .int .i64 (y : Nat)) :: (T2.map tblC ++ M), fun (⟨F2, t2, v2, stk2, A2, cap2⟩ : Hp × Thr × Value × List (Thr × Value) × Nat × Nat) => Sub F1 F2 ∧ TOk F2 p m.ps.length 0 (t2, v2) ∧ (∀ x ∈ stk2, TOk F2 p m.ps.length 0 x) ∧ evs m V ((⟨a, bd', lv, sl⟩ : Thr) :: thrs stk') = evs m (V.add (a, bd', lv)) (t2 :: thrs stk2) ∧ stk2.length ≤ stk'.length + 1, fun (⟨F2, t2, v2, stk2, A2, cap2⟩ : Hp × Thr × Value × List (Thr × Value) × Nat × Nat) => 0⟩ : LI (Hp × Thr × Value × List (Thr × Value) × Nat × Nat)) ?_ ?_
        · refine cSeq (cReg (tQ rfl (qFieldAddr Tryd.runUnderlying44 rfl Tryd.sizeOf3 rfl rfl rfl) (tQ rfl (qLd1M 1 Tryd.isAgg3 rfl rfl rfl) (tEnd (xThen (cBlock (cSeq (cReg (tQ rfl (qEq rfl rfl) (tQ rfl (qAssign rfl) (tEnd (xThen ?_))))))))))))
          refine cIf rfl (fun c92 => ?_) (fun c92 => ?_)
          · refine cSeq (cSeq ?_)
            have hop : (gI p.insts a).op = 1 := by simpa using c92
            refine cDrawM 7 [(0, true), (1, true), (2, true), (3, true), (4, true), (5, true), (6, true)] Tryd.mixed (by kernel_rfl) (fun _ _ _ _ _ h => h) (dQ rfl rfl (qFieldAddr Tryd.runUnderlying198 rfl Tryd.sizeOf3 rfl rfl rfl) (fun _ s => s) (dQ rfl rfl (qLd1M 4 Tryd.isAgg3 rfl rfl rfl) (fun _ s => s) (dQ rfl rfl (qMove rfl) (fun _ s => s) (dQ rfl rfl (qNil rfl) (fun _ s => s) (dQ rfl rfl (qFieldAddr Tryd.runUnderlying152 rfl Tryd.sizeOf72 rfl rfl rfl) (fun _ s => s) (dQ rfl rfl (qLd1M 2 Tryd.isAgg72 rfl rfl rfl) (fun _ s => s) (dQ rfl rfl (qLen Tryd.runUnderlying72 rfl rfl) (fun _ s => s) (dEnd (tQ rfl (qEq rfl rfl) (tEnd (xThen ?_)))))))))))
            refine cIf rfl (fun c101 => ?_) (fun c101 => ?_)
            · refine cSeq (cSeq ?_)
              have hbe : bd' = m.us.length := by simp at c101; omega
              refine cReg (tQ rfl (qFieldAddr Tryd.runUnderlying44 rfl Tryd.sizeOf42 rfl rfl rfl) (tQ rfl (qLd1M 1 Tryd.isAgg42 rfl rfl rfl) (tQ rfl (qLen Tryd.runUnderlying42 rfl rfl) (tQ rfl (qGt rfl rfl) (tEnd (xThen ?_))))))
              refine cIf rfl (fun c105 => ?_) (fun c105 => ?_)
              · refine cDraw (blk bw [.slice (some ⟨bI, oI, none⟩) n cI, .slice BN p.names.length cN, .bool raw, .string m.text, .slice AU m.us.length cU, .slice (some ⟨bP, oP, none⟩) m.ps.length cP, (.slice (some ⟨b16, 0, none⟩) m.ps.length m.ps.length), .slice (some ⟨br, 0, none⟩) 65 65, .int .i64 (rankOf (mkOf p.insts) 65 : Nat), (rowV Aw W.1.length cw), (rowV Aq W.2.length cq)] 152 :: []) 14 [(0, true), (1, true), (2, true), (3, true), (4, true), (5, true), (6, true), (7, true), (8, true), (9, true), (10, false), (11, false), (12, true), (13, true)] Tryd.mixed (by kernel_rfl) (fun _ _ _ _ _ h => h) (dQ rfl rfl (qMove rfl) (fun _ s => s.less (.cons _ (.cons _ (.cons_cons _ (List.nil_sublist _))))) (dQ rfl rfl (qMove rfl) (fun _ s => s.less (.cons _ (.cons _ (.cons_cons _ (List.nil_sublist _))))) (dQ rfl rfl (qNil rfl) (fun _ s => s.less (.cons _ (.cons _ (.cons_cons _ (List.nil_sublist _))))) (dQ rfl rfl (qFieldAddr Tryd.runUnderlying152 rfl Tryd.sizeOf24 rfl rfl rfl) (fun _ s => s.less (.cons _ (.cons _ (.cons_cons _ (List.nil_sublist _))))) (dQ rfl rfl (qLd1M 0 Tryd.isAgg24 rfl rfl rfl) (fun _ s => s.less (.cons _ (.cons _ (.cons_cons _ (List.nil_sublist _))))) (dQ rfl rfl (qMove rfl) (fun _ s => s.less (.cons _ (.cons _ (.cons_cons _ (List.nil_sublist _))))) (dQ rfl rfl (qNil rfl) (fun _ s => s.less (.cons _ (.cons _ (.cons_cons _ (List.nil_sublist _))))) (dQ rfl rfl (qFieldAddr Tryd.runUnderlying152 rfl Tryd.sizeOf50 rfl rfl rfl) (fun _ s => s.less (.cons _ (.cons _ (.cons_cons _ (List.nil_sublist _))))) ?_))))))))
                refine dQ rfl rfl (qLd1M 0 Tryd.isAgg50 rfl rfl rfl) (fun _ s => s.less (.cons _ (.cons _ (.cons_cons _ (List.nil_sublist _))))) (dQ rfl rfl (qLen Tryd.runUnderlying50 rfl rfl) (fun _ s => s.less (.cons _ (.cons _ (.cons_cons _ (List.nil_sublist _))))) (dBuildSlice rfl rfl Tryd.runUnderlying24 Tryd.sizeOf3 Tryd.zeroValue3 rfl rfl rfl rfl (cs := [_]) (fun _ _ s => s.less (.cons _ (.cons _ (.cons _ (.cons_cons _ (List.nil_sublist _)))))) fun b116 => (dAppend (bytes := 8) 8 rfl rfl Tryd.runUnderlying24 Tryd.sizeOf3 Tryd.typeInfo3 rfl Tryd.zeroValue3 rfl Tryd.runUnderlying24 rfl rfl rfl rfl rfl haq (by simp) rfl (by simp [Value.oneCell']) (fun w' s' => reads_blk 0 rfl rfl s') (by omega) (fun _ _ _ s => s.less (.cons _ (.cons _ (.cons _ (.cons_cons _ (List.nil_sublist _)))))) fun A117 c117 h117 => (dQ rfl rfl (qNil rfl) (fun _ s => s.less (.cons _ (.cons _ (.cons _ (.cons_cons _ (List.nil_sublist _)))))) (dQ rfl rfl (qFieldAddr Tryd.runUnderlying152 rfl Tryd.sizeOf24 rfl rfl rfl) (fun _ s => s.less (.cons _ (.cons _ (.cons _ (.cons_cons _ (List.nil_sublist _)))))) (dEnd (tStore1 3 Tryd.sizeOf24 rfl rfl rfl rfl (by simp) (tEnd (xThen (cExit (xExitThen (xExitOther rfl (xExitThen (xExitBlock ?_))))))))))))))
                refine xRound _ (RSt.mk F1 T2 (V.add (a, bd', lv)) stk' A cap (W.1, W.2 ++ [W.1.length]) wv Aw cw A117 c117) ?_ (by dsimp only; simp only [List.length_append, List.length_singleton]; omega) (le_of ⟨rfl, (by first | rfl | simp [look]), trivial⟩) (fun _ s => by simp only [List.map_append, List.length_append, List.length_singleton]; exact s.less (.cons _ (.cons _ (.cons _ (.cons_cons _ (.cons_cons _ (.cons _ (.refl _))))))))
                have hop : (gI p.insts a).op = 1 := by simpa using c92
                have hstep : m.step ⟨a, bd', lv, sl⟩ = .die := by
                  simp only [Mach.step, hm, hop, if_true]
                  exact if_pos hbe
                have hwt : m.waits ⟨a, bd', lv, sl⟩ = true := by
                  have := hR.len
                  simp at c105
                  simp [Mach.waits, hm, hop, hbe]
                  omega
                exact hB0.step (Sub.refl _) hkm hVf hT2 (fun y hy => hstk y (by simp [hy])) [none] (by simp) (evs_wait hkm hVf hstep hwt) (by omega) rfl hwv haw (fun e => by have := h117 e; simp at this)
              · refine cSkip (xThen (cExit (xExitThen (xExitOther rfl (xExitThen (xExitBlock ?_))))))
                refine xRound _ (RSt.mk F1 T2 (V.add (a, bd', lv)) stk' A cap W wv Aw cw Aq cq) ?_ (by dsimp only; simp only [List.length_append, List.length_singleton]; omega) (le_of ⟨rfl, (by first | rfl | simp [look]), trivial⟩) (fun _ s => s.less (.cons _ (.cons _ (.cons_cons _ (.cons_cons _ (.cons _ (.cons_cons _ (.cons_cons _ (.cons_cons _ (.refl _))))))))))
                have hop : (gI p.insts a).op = 1 := by simpa using c92
                have hstep : m.step ⟨a, bd', lv, sl⟩ = .die := by
                  simp only [Mach.step, hm, hop, if_true]
                  exact if_pos hbe
                have hwt : m.waits ⟨a, bd', lv, sl⟩ = false := by
                  have := hR.len
                  simp at c105
                  simp [Mach.waits, hm, hop, hbe]
                  exact List.eq_nil_of_length_eq_zero (by omega)
                exact hB0.step (Sub.refl _) hkm hVf hT2 (fun y hy => hstk y (by simp [hy])) [] (by simp) (evs_die hkm hVf hstep hwt) (by omega) rfl hwv haw haq
            · refine cSkip (xThen (cSeq (cSeq ?_)))
              have hbu : bd' < m.us.length := by simp at c101; omega
              obtain ⟨bU, oU, rfl, hUa⟩ := hU (by omega)
              refine cDrawM 11 [(0, true), (1, true), (2, true), (3, true), (4, true), (5, true), (6, true), (7, true), (8, true), (9, true), (10, false)] Tryd.mixed (by kernel_rfl) (fun _ _ _ _ _ h => h) (dQ rfl rfl (qFieldAddr Tryd.runUnderlying44 rfl Tryd.sizeOf42 rfl rfl rfl) (fun _ s => s) (dQ rfl rfl (qLd1M 1 Tryd.isAgg42 rfl rfl rfl) (fun _ s => s) (dQ rfl rfl (qMove rfl) (fun _ s => s) (dQ rfl rfl (qNil rfl) (fun _ s => s) (dQ rfl rfl (qFieldAddr Tryd.runUnderlying152 rfl Tryd.sizeOf72 rfl rfl rfl) (fun _ s => s) (dQ rfl rfl (qLd1M 2 Tryd.isAgg72 rfl rfl rfl) (fun _ s => s) (dQ rfl rfl (qFieldAddr Tryd.runUnderlying198 rfl Tryd.sizeOf3 rfl rfl rfl) (fun _ s => s) (dQ rfl rfl (qLd1M 4 Tryd.isAgg3 rfl rfl rfl) (fun _ s => s) (dQ rfl rfl (qIdxAddr Tryd.runUnderlying72 Tryd.sizeOf21 rfl rfl rfl (by omega)) (fun _ s => s) (dQ rfl rfl (qLd1W Tryd.isAgg21 rfl (fun w s => hUa w (s.tail (X := _ :: _ :: _ :: _ :: _ :: _ :: _ :: _ :: T2.map tblC) hsub) bd' hbu)) (fun _ s => s) (dCallQ rfl rfl Tryd.call127 (first := []) (captured := []) rfl rfl (fun w' s' => has12 s'.sub hR hms) (fun _ s => s) ?_)))))))))))
              refine dEnd (tQ rfl (qNot rfl) (tEnd (xThen ?_)))
              refine cIf rfl (fun c131 => ?_) (fun c131 => ?_)
              · refine cExit (xExitThen (xExitOther rfl (xExitThen (xExitBlock ?_))))
                refine xRound _ (RSt.mk F1 T2 (V.add (a, bd', lv)) stk' A cap W wv Aw cw Aq cq) ?_ (by dsimp only; simp only [List.length_append, List.length_singleton]; omega) (le_of ⟨rfl, (by first | rfl | simp [look]), trivial⟩) (fun _ s => s.less (.cons _ (.cons _ (.cons_cons _ (.cons_cons _ (.cons _ (.cons_cons _ (.cons_cons _ (.cons_cons _ (.refl _))))))))))
                have hstep : m.step ⟨a, bd', lv, sl⟩ = .die := by
                  simp at c131
                  simp [Mach.step, hm, hop, c131, Nat.ne_of_lt hbu]
                have hwt : m.waits ⟨a, bd', lv, sl⟩ = false := by
                  simp [Mach.waits, hm, hop, Nat.ne_of_lt hbu]
                exact hB0.step (Sub.refl _) hkm hVf hT2 (fun y hy => hstk y (by simp [hy])) [] (by simp) (evs_die hkm hVf hstep hwt) (by omega) rfl hwv haw haq
              · refine cSkip (xThen (cSeq (cReg (tQ rfl (qFieldAddr Tryd.runUnderlying198 rfl Tryd.sizeOf3 rfl rfl rfl) (tQ rfl (qLd1M 4 Tryd.isAgg3 rfl rfl rfl) (tQ rfl (qAdd rfl rfl (w64 (by omega) (by omega))) (tQ rfl (qFieldAddr Tryd.runUnderlying198 rfl Tryd.sizeOf3 rfl rfl rfl) (tStore1 0 Tryd.sizeOf3 rfl rfl rfl rfl (by simp) (tEnd (xThen (cReg (tQ rfl (qFieldAddr Tryd.runUnderlying198 rfl Tryd.sizeOf3 rfl rfl rfl) (tStore1 0 Tryd.sizeOf3 rfl rfl rfl rfl (by simp) (tEnd (xBlock ?_)))))))))))))))
                refine xMeet _ (F1, ⟨xx, bd' + 1, 64, sl⟩, .slice Av (2 * p.names.length + 2) cv, stk', A, cap) ?_ (le_of ⟨rfl, (by first | rfl | simp [look]), rfl, trivial⟩) (fun _ s => s.less (.cons_cons _ (.cons _ (.cons_cons _ (.cons_cons _ (.cons _ (.cons_cons _ (.cons_cons _ (.cons_cons _ (.refl _))))))))))
                have hstep : m.step ⟨a, bd', lv, sl⟩ = .go ⟨xx, bd' + 1, 64, sl⟩ := by
                  simp at c131
                  simp [Mach.step, hm, hop, hxx, c131, Nat.ne_of_lt hbu]
                exact ⟨Sub.refl _, ⟨⟨hX (by omega) (by omega), Nat.zero_le _, by show bd' + 1 < 0 + m.ps.length; omega, Nat.le_refl _, mk_64 _⟩, hsll, ⟨_, _, rfl, hsr⟩⟩, fun y hy => hstk y (by simp [hy]), evs_go hkm hVf hstep, by first | omega | (dsimp only; omega)⟩
          · refine cSeq (cReg (tQ rfl (qEq rfl rfl) (tQ rfl (qAssign rfl) (tEnd (xThen ?_)))))
            refine cIf rfl (fun c137 => ?_) (fun c137 => ?_)
            · have hop : (gI p.insts a).op = 2 := by simpa using c137
              refine cReg (tQ rfl (qMove rfl) (tQ rfl (qFieldAddr Tryd.runUnderlying44 rfl Tryd.sizeOf3 rfl rfl rfl) (tQ rfl (qLd1M 1 Tryd.isAgg3 rfl rfl rfl) (tQ rfl (qFieldAddr Tryd.runUnderlying198 rfl Tryd.sizeOf3 rfl rfl rfl) (tQ rfl (qLd1M 4 Tryd.isAgg3 rfl rfl rfl) (tQ rfl (qFieldAddr Tryd.runUnderlying198 rfl Tryd.sizeOf3 rfl rfl rfl) (tQ rfl (qLd1M 4 Tryd.isAgg3 rfl rfl rfl) (tQ rfl (qFieldAddr Tryd.runUnderlying198 rfl Tryd.sizeOf24 rfl rfl rfl) (tQ rfl (qLd1M 4 Tryd.isAgg24 rfl rfl rfl) (tQ rfl (qBuildS build198 (cs := [_, _, _, _]) rfl rfl) (tBuildSlice rfl Tryd.runUnderlying199 Tryd.sizeOf198 Tryd.zeroValue198 rfl rfl rfl rfl (cs := [_, _, _, _]) fun b149 => ?_)))))))))))
              refine tAppend (bytes := 48) 6 rfl Tryd.runUnderlying199 Tryd.sizeOf198 Tryd.typeInfo198 rfl Tryd.zeroValue198 rfl Tryd.runUnderlying199 rfl rfl rfl rfl rfl (fun e => by cases e) (flat_len _) rfl (by simp [Value.oneCell']) (fun w' s' => reads_blk 0 rfl rfl s') (by omega) fun A150 c150 h150 => ?_
              obtain ⟨A2, rfl⟩ : ∃ b, A150 = some b := by
                cases A150 with
                | none => have := (h150 rfl).2; omega
                | some b => exact ⟨b, rfl⟩
              refine tQ rfl (qAssign rfl) (tEnd (xBlock ?_))
              refine xMeet _ (F1, ⟨xx, bd', lv, sl⟩, .slice Av (2 * p.names.length + 2) cv, stk' ++ [(⟨yy, bd', lv, sl⟩, .slice Av (2 * p.names.length + 2) cv)], A2, c150) ?_ (le_of ⟨rfl, (by first | rfl | simp [look]), rfl, trivial⟩) (fun _ s => by simp only [flat_snoc]; exact s.less (.cons _ (.cons_cons _ (.cons _ (.cons_cons _ (.cons_cons _ (.cons _ (.refl _))))))))
              have hstep : m.step ⟨a, bd', lv, sl⟩ = .fork ⟨xx, bd', lv, sl⟩ ⟨yy, bd', lv, sl⟩ := by
                simp [Mach.step, hm, hop, hxx, hyy]
              exact ⟨Sub.refl _, ⟨⟨hX (by omega) (by omega), Nat.zero_le _, hbhi, hlv, hkey.mkd⟩, hsll, ⟨_, _, rfl, hsr⟩⟩, fun y hy => by
                rcases List.mem_append.1 hy with h | h
                · exact hstk y (by simp [h])
                · obtain rfl := List.mem_singleton.1 h; exact ⟨⟨hY hop, Nat.zero_le _, hbhi, hlv, hkey.mkd⟩, hsll, ⟨_, _, rfl, hsr⟩⟩, by rw [thrs_snoc]; exact evs_fork hkm hVf hstep, by simp⟩
            · refine cSeq (cReg (tQ rfl (qEq rfl rfl) (tQ rfl (qAssign rfl) (tEnd (xThen ?_)))))
              refine cIf rfl (fun c151 => ?_) (fun c151 => ?_)
              · have hop : (gI p.insts a).op = 3 := by simpa using c151
                refine cDrawM 14 [(0, true), (1, true), (2, true), (3, true), (4, true), (5, true), (6, true), (7, true), (8, true), (9, true), (10, true), (11, true), (12, false), (13, true)] Tryd.mixed (by kernel_rfl) (fun _ _ _ _ _ h => h) (dQ rfl rfl (qFieldAddr Tryd.runUnderlying198 rfl Tryd.sizeOf24 rfl rfl rfl) (fun _ s => s) (dQ rfl rfl (qLd1M 4 Tryd.isAgg24 rfl rfl rfl) (fun _ s => s) (dQ rfl rfl (qFieldAddr Tryd.runUnderlying44 rfl Tryd.sizeOf3 rfl rfl rfl) (fun _ s => s) (dQ rfl rfl (qLd1M 1 Tryd.isAgg3 rfl rfl rfl) (fun _ s => s) (dQ rfl rfl (qMove rfl) (fun _ s => s) (dQ rfl rfl (qNil rfl) (fun _ s => s) (dQ rfl rfl (qFieldAddr Tryd.runUnderlying152 rfl Tryd.sizeOf24 rfl rfl rfl) (fun _ s => s) (dQ rfl rfl (qLd1M 2 Tryd.isAgg24 rfl rfl rfl) (fun _ s => s) (dQ rfl rfl (qFieldAddr Tryd.runUnderlying198 rfl Tryd.sizeOf3 rfl rfl rfl) (fun _ s => s) (dQ rfl rfl (qLd1M 4 Tryd.isAgg3 rfl rfl rfl) (fun _ s => s) (dQ rfl rfl (qIdxAddr Tryd.runUnderlying24 Tryd.sizeOf3 rfl rfl rfl (by omega)) (fun _ s => s) ?_)))))))))))
                refine dQ rfl rfl (qLd1W (v := .int .i64 z) Tryd.isAgg3 rfl (fun w s => by rw [← hz]; exact hPa w (s.tail (X := _ :: _ :: _ :: _ :: _ :: _ :: _ :: _ :: T2.map tblC) hsub) bd' hbp)) (fun _ s => s) (dCallO rfl rfl Tryd.call125 (first := []) (captured := []) rfl rfl (Φ := fun v C => ∃ b cap, v = rowV (some b) (2 * p.names.length + 2) cap ∧ C = [row (some b) cap 3 1 ((sl.set nn z).map (.int .i64 ·))]) (fun w' s' => noted_ (F := F1) (k := nn) s'.sub hsr (by omega) (hSv hop).2) (fun v C hΦ w s => by obtain ⟨b, c, rfl, rfl⟩ := hΦ; exact s.less (.cons _ (.refl _))) fun v C hΦ => ?_)
                obtain ⟨b165, c165, rfl, rfl⟩ := hΦ
                refine dQ rfl rfl (qFieldAddr Tryd.runUnderlying198 rfl Tryd.sizeOf24 rfl rfl rfl) (fun _ s => s.less (.cons _ (.refl _))) (dEnd (tStore1 1 Tryd.sizeOf24 rfl rfl rfl rfl (by simp) (tEnd (xBlock (xFreeze 0 rfl fun FW hSW hAW hNW => ?_)))))
                refine xMeet _ (FW, ⟨xx, bd', lv, sl.set nn z⟩, rowV (some b165) (2 * p.names.length + 2) c165, stk', A, cap) ?_ (le_of ⟨rfl, (by first | rfl | simp [look]), rfl, trivial⟩) (fun _ s => s.less (.cons_cons _ (.cons _ (.cons_cons _ (.cons_cons _ (.cons _ (.cons_cons _ (.cons_cons _ (.cons_cons _ (.refl _))))))))))
                have hstep : m.step ⟨a, bd', lv, sl⟩ = .go ⟨xx, bd', lv, sl.set nn z⟩ := by
                  simp [Mach.step, hm, hop, hxx, hnn, hz]
                exact ⟨hSW, ⟨⟨hX (by omega) (by omega), Nat.zero_le _, hbhi, hlv, hkey.mkd⟩, by simp [hsll], ⟨_, _, rfl, rdI_row (cap := c165) (e := 3) hAW (by simp [hsll]) (fun e => by cases e)⟩⟩, fun y hy => (hstk y (by simp [hy])).mono hSW, evs_go hkm hVf hstep, by first | omega | (dsimp only; omega)⟩
              · refine cSeq (cReg (tQ rfl (qEq rfl rfl) (tQ rfl (qAssign rfl) (tEnd (xThen ?_)))))
                refine cIf rfl (fun c167 => ?_) (fun c167 => ?_)
                · refine cSeq ?_
                  have hop : (gI p.insts a).op = 4 := by simpa using c167
                  obtain ⟨q, hq, hqs⟩ := hlook a ha hop bd' hbp
                  obtain rfl : z = (q : Int) := by rw [← hz]; exact hq
                  refine cDrawM 15 [(0, true), (1, true), (2, true), (3, true), (4, true), (5, true), (6, true), (7, true), (8, true), (9, true), (10, true), (11, true), (12, true), (13, true), (14, false)] Tryd.mixed (by kernel_rfl) (fun _ _ _ _ _ h => h) (dQ rfl rfl (qFieldAddr Tryd.runUnderlying44 rfl Tryd.sizeOf3 rfl rfl rfl) (fun _ s => s) (dQ rfl rfl (qLd1M 1 Tryd.isAgg3 rfl rfl rfl) (fun _ s => s) (dQ rfl rfl (qMove rfl) (fun _ s => s) (dQ rfl rfl (qNil rfl) (fun _ s => s) (dQ rfl rfl (qFieldAddr Tryd.runUnderlying152 rfl Tryd.sizeOf9 rfl rfl rfl) (fun _ s => s) (dQ rfl rfl (qLd1M 2 Tryd.isAgg9 rfl rfl rfl) (fun _ s => s) (dQ rfl rfl (qMove rfl) (fun _ s => s) (dQ rfl rfl (qNil rfl) (fun _ s => s) (dQ rfl rfl (qFieldAddr Tryd.runUnderlying152 rfl Tryd.sizeOf24 rfl rfl rfl) (fun _ s => s) (dQ rfl rfl (qLd1M 2 Tryd.isAgg24 rfl rfl rfl) (fun _ s => s) (dQ rfl rfl (qFieldAddr Tryd.runUnderlying198 rfl Tryd.sizeOf3 rfl rfl rfl) (fun _ s => s) ?_)))))))))))
                  refine dQ rfl rfl (qLd1M 4 Tryd.isAgg3 rfl rfl rfl) (fun _ s => s) (dQ rfl rfl (qIdxAddr Tryd.runUnderlying24 Tryd.sizeOf3 rfl rfl rfl (by omega)) (fun _ s => s) (dQ rfl rfl (qLd1W (v := .int .i64 (q : Nat)) Tryd.isAgg3 rfl (fun w s => by rw [← hz]; exact hPa w (s.tail (X := _ :: _ :: _ :: _ :: _ :: _ :: _ :: _ :: T2.map tblC) hsub) bd' hbp)) (fun _ s => s) (dCallQ rfl rfl Tryd.call128 (first := []) (captured := []) rfl rfl (fun w' s' => holds12 hqs (by omega) ⟨by have := (hLk hop).1; omega, by have := (hLk hop).2.1; omega⟩) (fun _ s => s) (dEnd (tQ rfl (qNot rfl) (tEnd (xThen ?_)))))))
                  refine cIf rfl (fun c184 => ?_) (fun c184 => ?_)
                  · refine cExit (xExitOther rfl (xExitThen (xExitBlock ?_)))
                    refine xRound _ (RSt.mk F1 T2 (V.add (a, bd', lv)) stk' A cap W wv Aw cw Aq cq) ?_ (by dsimp only; simp only [List.length_append, List.length_singleton]; omega) (le_of ⟨rfl, (by first | rfl | simp [look]), trivial⟩) (fun _ s => s.less (.cons _ (.cons _ (.cons_cons _ (.cons_cons _ (.cons _ (.cons_cons _ (.cons_cons _ (.cons_cons _ (.refl _))))))))))
                    have hstep : m.step ⟨a, bd', lv, sl⟩ = .die := by
                      simp at c184
                      simp [Mach.step, hm, hop, hnn, hz, c184]
                    have hwt : m.waits ⟨a, bd', lv, sl⟩ = false := by
                      simp [Mach.waits, hm, hop]
                    exact hB0.step (Sub.refl _) hkm hVf hT2 (fun y hy => hstk y (by simp [hy])) [] (by simp) (evs_die hkm hVf hstep hwt) (by omega) rfl hwv haw haq
                  · refine cSkip (xBlock ?_)
                    refine xMeet _ (F1, ⟨xx, bd', lv, sl⟩, .slice Av (2 * p.names.length + 2) cv, stk', A, cap) ?_ (le_of ⟨rfl, (by first | rfl | simp [look]), rfl, trivial⟩) (fun _ s => s.less (.cons_cons _ (.cons _ (.cons_cons _ (.cons_cons _ (.cons _ (.cons_cons _ (.cons_cons _ (.cons_cons _ (.refl _))))))))))
                    have hstep : m.step ⟨a, bd', lv, sl⟩ = .go ⟨xx, bd', lv, sl⟩ := by
                      simp at c184
                      simp [Mach.step, hm, hop, hxx, hnn, hz, c184]
                    exact ⟨Sub.refl _, ⟨⟨hX (by omega) (by omega), Nat.zero_le _, hbhi, hlv, hkey.mkd⟩, hsll, ⟨_, _, rfl, hsr⟩⟩, fun y hy => hstk y (by simp [hy]), evs_go hkm hVf hstep, by first | omega | (dsimp only; omega)⟩
                · refine cSeq (cReg (tQ rfl (qEq rfl rfl) (tQ rfl (qAssign rfl) (tEnd (xThen ?_)))))
                  refine cIf rfl (fun c185 => ?_) (fun c185 => ?_)
                  · refine cSeq ?_
                    have hop : (gI p.insts a).op = 5 := by simpa using c185
                    have hMk1 := hMk hop
                    refine cReg (tQ rfl (qFieldAddr Tryd.runUnderlying44 rfl Tryd.sizeOf3 rfl rfl rfl) (tQ rfl (qLd1M 1 Tryd.isAgg3 rfl rfl rfl) (tQ rfl (qFieldAddr Tryd.runUnderlying198 rfl Tryd.sizeOf3 rfl rfl rfl) (tQ rfl (qLd1M 4 Tryd.isAgg3 rfl rfl rfl) (tQ rfl (qLt rfl rfl) (tEnd (xThen ?_)))))))
                    refine cIf rfl (fun c191 => ?_) (fun c191 => ?_)
                    · refine cReg (tQ rfl (qFieldAddr Tryd.runUnderlying44 rfl Tryd.sizeOf3 rfl rfl rfl) (tQ rfl (qLd1M 1 Tryd.isAgg3 rfl rfl rfl) (tQ rfl (qFieldAddr Tryd.runUnderlying198 rfl Tryd.sizeOf3 rfl rfl rfl) (tStore1 0 Tryd.sizeOf3 rfl rfl rfl rfl (by simp) (tEnd (xBlock ?_))))))
                      refine xMeet _ (F1, ⟨xx, bd', nn, sl⟩, .slice Av (2 * p.names.length + 2) cv, stk', A, cap) ?_ (le_of ⟨rfl, (by first | rfl | simp [look]), rfl, trivial⟩) (fun _ s => s.less (.cons_cons _ (.cons _ (.cons_cons _ (.cons_cons _ (.cons _ (.cons_cons _ (.cons_cons _ (.cons_cons _ (.refl _))))))))))
                      have hmin : min lv nn = nn := by simp at c191; omega
                      have hstep : m.step ⟨a, bd', lv, sl⟩ = .go ⟨xx, bd', nn, sl⟩ := by
                        simp [Mach.step, hm, hop, hxx, hnn]; omega
                      exact ⟨Sub.refl _, ⟨⟨hX (by omega) (by omega), Nat.zero_le _, hbhi, by show nn ≤ 64; simp at c191; omega, mk_of (by rw [hil]; exact ha) hop hnn⟩, hsll, ⟨_, _, rfl, hsr⟩⟩, fun y hy => hstk y (by simp [hy]), evs_go hkm hVf hstep, by first | omega | (dsimp only; omega)⟩
                    · refine cSkip (xBlock ?_)
                      refine xMeet _ (F1, ⟨xx, bd', lv, sl⟩, .slice Av (2 * p.names.length + 2) cv, stk', A, cap) ?_ (le_of ⟨rfl, (by first | rfl | simp [look]), rfl, trivial⟩) (fun _ s => s.less (.cons_cons _ (.cons _ (.cons_cons _ (.cons_cons _ (.cons _ (.cons_cons _ (.cons_cons _ (.cons_cons _ (.refl _))))))))))
                      have hmin : min lv nn = lv := by simp at c191; omega
                      have hstep : m.step ⟨a, bd', lv, sl⟩ = .go ⟨xx, bd', lv, sl⟩ := by
                        simp [Mach.step, hm, hop, hxx, hnn]; omega
                      exact ⟨Sub.refl _, ⟨⟨hX (by omega) (by omega), Nat.zero_le _, hbhi, hlv, hkey.mkd⟩, hsll, ⟨_, _, rfl, hsr⟩⟩, fun y hy => hstk y (by simp [hy]), evs_go hkm hVf hstep, by first | omega | (dsimp only; omega)⟩
                  · refine cSeq (cReg (tQ rfl (qEq rfl rfl) (tQ rfl (qAssign rfl) (tEnd (xThen ?_)))))
                    refine cIf rfl (fun c195 => ?_) (fun c195 => ?_)
                    · refine cSeq ?_
                      have hop : (gI p.insts a).op = 6 := by simpa using c195
                      refine cReg (tQ rfl (qFieldAddr Tryd.runUnderlying198 rfl Tryd.sizeOf3 rfl rfl rfl) (tQ rfl (qLd1M 4 Tryd.isAgg3 rfl rfl rfl) (tQ rfl (qFieldAddr Tryd.runUnderlying44 rfl Tryd.sizeOf3 rfl rfl rfl) (tQ rfl (qLd1M 1 Tryd.isAgg3 rfl rfl rfl) (tQ rfl (qLe rfl rfl) (tEnd (xThen ?_)))))))
                      refine cIf rfl (fun c201 => ?_) (fun c201 => ?_)
                      · refine cExit (xExitOther rfl (xExitThen (xExitBlock ?_)))
                        refine xRound _ (RSt.mk F1 T2 (V.add (a, bd', lv)) stk' A cap W wv Aw cw Aq cq) ?_ (by dsimp only; simp only [List.length_append, List.length_singleton]; omega) (le_of ⟨rfl, (by first | rfl | simp [look]), trivial⟩) (fun _ s => s.less (.cons _ (.cons _ (.cons_cons _ (.cons_cons _ (.cons _ (.cons_cons _ (.cons_cons _ (.cons_cons _ (.refl _))))))))))
                        have hstep : m.step ⟨a, bd', lv, sl⟩ = .die := by
                          simp at c201
                          simp [Mach.step, hm, hop, hnn]
                          omega
                        have hwt : m.waits ⟨a, bd', lv, sl⟩ = false := by
                          simp [Mach.waits, hm, hop]
                        exact hB0.step (Sub.refl _) hkm hVf hT2 (fun y hy => hstk y (by simp [hy])) [] (by simp) (evs_die hkm hVf hstep hwt) (by omega) rfl hwv haw haq
                      · refine cSkip (xBlock ?_)
                        refine xMeet _ (F1, ⟨xx, bd', lv, sl⟩, .slice Av (2 * p.names.length + 2) cv, stk', A, cap) ?_ (le_of ⟨rfl, (by first | rfl | simp [look]), rfl, trivial⟩) (fun _ s => s.less (.cons_cons _ (.cons _ (.cons_cons _ (.cons_cons _ (.cons _ (.cons_cons _ (.cons_cons _ (.cons_cons _ (.refl _))))))))))
                        have hstep : m.step ⟨a, bd', lv, sl⟩ = .go ⟨xx, bd', lv, sl⟩ := by
                          simp at c201
                          simp [Mach.step, hm, hop, hxx, hnn]
                          omega
                        exact ⟨Sub.refl _, ⟨⟨hX (by omega) (by omega), Nat.zero_le _, hbhi, hlv, hkey.mkd⟩, hsll, ⟨_, _, rfl, hsr⟩⟩, fun y hy => hstk y (by simp [hy]), evs_go hkm hVf hstep, by first | omega | (dsimp only; omega)⟩
                    · refine cSeq (cReg (tQ rfl (qEq rfl rfl) (tQ rfl (qAssign rfl) (tEnd (xThen ?_)))))
                      refine cIf rfl (fun c202 => ?_) (fun c202 => ?_)
                      · refine cSeq ?_
                        have hop : (gI p.insts a).op = 7 := by simpa using c202
                        have hhit : m.step ⟨a, bd', lv, sl⟩ = .hit (sl.set 1 z) := by simp [Mach.step, hm, hop, hz]
                        refine cDrawM 12 [(0, true), (1, true), (2, true), (3, true), (4, true), (5, true), (6, true), (7, true), (8, true), (9, true), (10, true), (11, false)] Tryd.mixed (by kernel_rfl) (fun _ _ _ _ _ h => h) (dQ rfl rfl (qMove rfl) (fun _ s => s) (dQ rfl rfl (qFieldAddr Tryd.runUnderlying198 rfl Tryd.sizeOf24 rfl rfl rfl) (fun _ s => s) (dQ rfl rfl (qLd1M 4 Tryd.isAgg24 rfl rfl rfl) (fun _ s => s) (dQ rfl rfl (qMove rfl) (fun _ s => s) (dQ rfl rfl (qNil rfl) (fun _ s => s) (dQ rfl rfl (qFieldAddr Tryd.runUnderlying152 rfl Tryd.sizeOf24 rfl rfl rfl) (fun _ s => s) (dQ rfl rfl (qLd1M 2 Tryd.isAgg24 rfl rfl rfl) (fun _ s => s) (dQ rfl rfl (qFieldAddr Tryd.runUnderlying198 rfl Tryd.sizeOf3 rfl rfl rfl) (fun _ s => s) (dQ rfl rfl (qLd1M 4 Tryd.isAgg3 rfl rfl rfl) (fun _ s => s) (dQ rfl rfl (qIdxAddr Tryd.runUnderlying24 Tryd.sizeOf3 rfl rfl rfl (by omega)) (fun _ s => s) (dQ rfl rfl (qLd1W (v := .int .i64 z) Tryd.isAgg3 rfl (fun w s => by rw [← hz]; exact hPa w (s.tail (X := _ :: _ :: _ :: _ :: _ :: _ :: _ :: _ :: T2.map tblC) hsub) bd' hbp)) (fun _ s => s) ?_)))))))))))
                        refine dCallO rfl rfl Tryd.call125 (first := []) (captured := []) rfl rfl (Φ := fun v C => ∃ b cap, v = rowV (some b) (2 * p.names.length + 2) cap ∧ C = [row (some b) cap 3 1 ((sl.set 1 z).map (.int .i64 ·))]) (fun w' s' => noted_ (F := F1) (k := 1) s'.sub hsr (by omega) (by omega)) (fun v C hΦ w s => by obtain ⟨b, c, rfl, rfl⟩ := hΦ; exact s.less (.cons _ (.refl _))) fun v C hΦ => ?_
                        obtain ⟨b215, c215, rfl, rfl⟩ := hΦ
                        refine dEnd (tFreeze 0 rfl fun FB hSB hAB hNB => ?_)
                        have hslB : RdI FB .i64 (some ⟨b215, 0, none⟩) (2 * p.names.length + 2) (sl.set 1 z) := rdI_row (cap := c215) (e := 3) hAB (by simp [hsll]) (fun e => by cases e)
                        refine tMem _ (fun _ s => s.perm (perm_way _ _ _ _ _ _ _ _ _)) (tCallG rfl Tryd.call129 (first := []) (captured := []) rfl rfl (fun w' s' => way_ s' haw (hwv.mono hSB) hslB (by omega) (by omega)) fun v F' M' hP => ?_)
                        obtain ⟨e1, e2, Aw2, cw2, wv2, hwv2, haw2, e3⟩ := hP
                        subst e1; subst e3
                        obtain rfl := e2.symm
                        refine tEnd (xThen (cExit (xExitOther rfl (xExitThen (xExitBlock ?_)))))
                        refine xRound _ (RSt.mk FB T2 (V.add (a, bd', lv)) stk' A cap (addW W.1 (sl.set 1 z), W.2) wv2 Aw2 cw2 Aq cq) ?_ (by dsimp only; simp only [List.length_append, List.length_singleton]; omega) (le_of ⟨rfl, (by first | rfl | simp [look]), trivial⟩) (fun _ s => (s.less (.cons_cons _ (.cons_cons _ (.cons _ (.cons _ (.cons_cons _ (.cons _ (.refl _)))))))).perm (List.Perm.cons _ (List.perm_middle (l₁ := [_, _])).symm))
                        exact hB0.step hSB hkm hVf hT2 (fun y hy => (hstk y (by simp [hy])).mono hSB) [some (sl.set 1 z)] (by simp) (evs_hit hkm hVf hhit) (by omega) rfl hwv2 haw2 haq
                      · refine cSeq (cReg (tQ rfl (qEq rfl rfl) (tQ rfl (qAssign rfl) (tEnd (xThen ?_)))))
                        refine cIf rfl (fun c217 => ?_) (fun c217 => ?_)
                        · refine cExit (xExitOther rfl (xExitThen (xExitBlock ?_)))
                          refine xRound _ (RSt.mk F1 T2 (V.add (a, bd', lv)) stk' A cap W wv Aw cw Aq cq) ?_ (by dsimp only; simp only [List.length_append, List.length_singleton]; omega) (le_of ⟨rfl, (by first | rfl | simp [look]), trivial⟩) (fun _ s => s.less (.cons _ (.cons _ (.cons_cons _ (.cons_cons _ (.cons _ (.cons_cons _ (.cons_cons _ (.cons_cons _ (.refl _))))))))))
                          have hop : (gI p.insts a).op = 8 := by simpa using c217
                          have hstep : m.step ⟨a, bd', lv, sl⟩ = .die := by
                            simp [Mach.step, hm, hop]
                          have hwt : m.waits ⟨a, bd', lv, sl⟩ = false := by
                            simp [Mach.waits, hm, hop]
                          exact hB0.step (Sub.refl _) hkm hVf hT2 (fun y hy => hstk y (by simp [hy])) [] (by simp) (evs_die hkm hVf hstep hwt) (by omega) rfl hwv haw haq
                        · refine cSkip (xBlock ?_)
                          refine xMeet _ (F1, ⟨xx, bd', lv, sl⟩, .slice Av (2 * p.names.length + 2) cv, stk', A, cap) ?_ (le_of ⟨rfl, (by first | rfl | simp [look]), rfl, trivial⟩) (fun _ s => s.less (.cons_cons _ (.cons _ (.cons_cons _ (.cons_cons _ (.cons _ (.cons_cons _ (.cons_cons _ (.cons_cons _ (.refl _))))))))))
                          have hop : (gI p.insts a).op = 9 := by simp at c92 c137 c151 c167 c185 c195 c202 c217; omega
                          have hstep : m.step ⟨a, bd', lv, sl⟩ = .go ⟨xx, bd', lv, sl⟩ := by
                            simp [Mach.step, hm, hop, hxx]
                          exact ⟨Sub.refl _, ⟨⟨hX (by simp at c217 c202; omega) (by simp at c217 c202; omega), Nat.zero_le _, hbhi, hlv, hkey.mkd⟩, hsll, ⟨_, _, rfl, hsr⟩⟩, fun y hy => hstk y (by simp [hy]), evs_go hkm hVf hstep, by first | omega | (dsimp only; omega)⟩
        · rintro ⟨F2, t2, v2, stk2, A2, cap2⟩ ⟨hs2, ht2, hstk2, hfin2, hlen2⟩
          obtain ⟨hk2, hsl2, Av2, cv2, hv2, hsr2⟩ := ht2
          dsimp only at hv2 hsl2 hsr2
          subst hv2
          refine cReg (tQ rfl (qMove rfl) (tQ rfl (qLdNM 0 Tryd.isAgg198 Tryd.sizeOf198 rfl rfl rfl rfl) (tBuildSlice rfl Tryd.runUnderlying199 Tryd.sizeOf198 Tryd.zeroValue198 rfl rfl rfl rfl (cs := [_, _, _, _]) fun b221 => (tAppend (bytes := 48) 4 rfl Tryd.runUnderlying199 Tryd.sizeOf198 Tryd.typeInfo198 rfl Tryd.zeroValue198 rfl Tryd.runUnderlying199 rfl rfl rfl rfl rfl (fun e => by cases e) (flat_len _) rfl (by simp [Value.oneCell', tc]) (fun w' s' => reads_blk 0 rfl rfl s') (by omega) fun A222 c222 h222 => ?_))))
          obtain ⟨A3, rfl⟩ : ∃ b, A222 = some b := by
            cases A222 with
            | none => have := (h222 rfl).2; omega
            | some b => exact ⟨b, rfl⟩
          refine tQ rfl (qAssign rfl) (tEnd (xBlock ?_))
          refine xRound _ (RSt.mk F2 T2 (V.add (a, bd', lv)) (stk2 ++ [(t2, .slice Av2 (2 * p.names.length + 2) cv2)]) A3 c222 W wv Aw cw Aq cq) ?_ (by dsimp only; simp only [List.length_append, List.length_singleton]; omega) (le_of ⟨rfl, (by first | rfl | simp [look]), trivial⟩) (fun _ s => by simp only [flat_snoc]; exact s.less (.cons _ (.cons _ (.refl _))))
          exact hB0.step hs2 hkm hVf hT2 (fun y hy => by
            rcases List.mem_append.1 hy with h | h
            · exact hstk2 y h
            · obtain rfl := List.mem_singleton.1 h; exact ⟨hk2, hsl2, _, _, rfl, hsr2⟩) [] (by simp) (by rw [thrs_snoc]; exact hfin2) (by simp; omega) rfl (hwv.mono hs2) haw haq
    · refine cExit (xExitThen (xExitThen (xExitBlock (xEnd0 Tryd.results90 ?_))))
      intro w' s'
      have hst0 : stk = [] := by simpa using c57
      subst hst0
      obtain ⟨pre, e1, e2⟩ := hrun
      rw [show thrs [] = [] from rfl, evs_nil, List.append_nil] at e1
      subst e1
      rw [← e2]
      exact ⟨F1, _, ⟨rfl, hsub, _, Aw, cw, wv, Aq, cq, hwv, haw, haq, rfl⟩, s'.less (.cons_cons _ (.cons _ (.cons _ (.cons_cons _ (.cons_cons _ (List.sublist_append_right _ _))))))⟩

end Go.V
