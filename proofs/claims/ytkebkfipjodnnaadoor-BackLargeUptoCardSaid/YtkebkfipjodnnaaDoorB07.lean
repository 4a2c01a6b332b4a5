/-
  Lemmas of this claim's own, part 8: contracts of the functions that the statement reaches, and the plain facts behind them.
-/
import Derived.Test.YtkebkfipjodnnaaDoorB06
set_option linter.unusedVariables false
set_option linter.unusedSimpArgs false
namespace Go.V
open Go.Proofs
set_option linter.unusedVariables false
set_option linter.unusedSimpArgs false

theorem cut_ {w : World} {s : ByteArray} {raw : Bool} (hs : s.size ≤ 1000000000) :
    Calls Tryd.prog 101 [.string s, .bool raw].toArray w (fun e w' => ∃ v, e = .returned v ∧ Ext w w' ∧ ∃ h', Fresh w w' h' ∧ CutF raw s v h') := by
  refine Calls.mono (enterG (R := fun v w' => Ext w w' ∧ ∃ h', Fresh w w' h' ∧ CutF raw s v h') 38 Tryd.func101 Tryd.ntmps101 rfl rfl (WS.start w) ?_) (fun e w' ⟨v, h1, h2⟩ => ⟨v, h1, h2⟩)
  refine cSeq (cReg (tQ rfl (qAssign rfl) (tQ rfl (qAssign rfl) (tEnd (xThen (cSeq (cSeq (cReg (tQ rfl (qMove rfl) (tQ rfl (qNot rfl) (tEnd (xThen ?_))))))))))))
  refine cIf rfl (fun c9 => ?_) (fun c9 => ?_)
  · obtain rfl : raw = false := by simpa using c9
    refine cSeq (cReg (tQ rfl (qMove rfl) (tCallF rfl Tryd.call135 (first := []) (captured := []) rfl rfl (Φ := UniF s) UniF.mono (fun w' s' => unitsU hs) fun v1 F1 hS1 hv1 => ?_)))
    obtain ⟨AU, cU, rfl, hU⟩ := hv1
    refine tQ rfl (qMove rfl) (tCallF rfl Tryd.call136 (first := []) (captured := []) rfl rfl (Φ := PlaF s) PlaF.mono (fun w' s' => placesU hs) fun v2 F2 hS2 hv2 => ?_)
    obtain ⟨AP, cP, rfl, hP⟩ := hv2
    refine tQ rfl (qAssign rfl) (tQ rfl (qAssign rfl) (tEnd (xThen (cRet (xRetThen ?_)))))
    have hl : (mU false s).length = (pairs s).length := by simp [mU, uL]
    refine xRet2 _ _ Tryd.results101 rfl rfl fun w' s' => ⟨s'.toExt (hS1.trans hS2), _, fresh_from _ _, AU, cU, AP, cP, by rw [hl], ?_, ?_⟩
    · rw [hl]; exact hU.mono (from_mono (hS2.trans s'.sub))
    · rw [hl]; exact hP.mono (from_mono s'.sub)
  · obtain rfl : raw = true := by simpa using c9
    refine cSkip (xThen (cSeq (cSeq (cNilRow 3 1 (cNilRow 21 1 (cReg (tQ rfl (qMove rfl) (tBytes rfl Tryd.underlying9 Tryd.underlying41 Tryd.underlying5 rfl fun b15 c15 F15 hS15 hB15 => (tQ rfl (qLen Tryd.runUnderlying41 rfl rfl) (tQ rfl (qMove rfl) (tEnd (xThen (cBlock (cLoop (⟨fun ⟨k, U, cU, P, cP⟩ => [(0, .string s), (4, rowV U k cU), (5, rowV P k cP), (15, .slice (some ⟨b15, 0, none⟩) s.size c15), (16, .int .i64 s.size), (17, .int .i64 k)], fun ⟨k, U, cU, P, cP⟩ => F15, fun ⟨k, U, cU, P, cP⟩ => [row U cU 21 1 ((List.range k).map fun i => .int .i32 (B s i : Nat)), row P cP 3 1 ((List.range k).map fun i => .int .i64 (i : Nat))], fun ⟨k, U, cU, P, cP⟩ => k ≤ s.size ∧ (U = none → cU = 0 ∧ k = 0) ∧ (P = none → cP = 0 ∧ k = 0), fun ⟨k, U, cU, P, cP⟩ => s.size - k⟩ : LI (Nat × Option Nat × Nat × Option Nat × Nat)) (loopStart _ (0, none, 0, none, 0) ⟨Nat.zero_le _, fun _ => ⟨rfl, rfl⟩, fun _ => ⟨rfl, rfl⟩⟩ (le_of ⟨rfl, rfl, rfl, rfl, rfl, rfl, trivial⟩) (fun _ s => s)) ?_))))))))))))))
    rintro ⟨k, U, cU, P, cP⟩ ⟨hk, hU, hP⟩
    refine cSeq (cReg (tQ rfl (qLt rfl rfl) (tEnd (xThen (cSeq ?_)))))
    refine cIf rfl (fun c18 => ?_) (fun c18 => ?_)
    · refine cSkip (xThen (cSeq (cBlock (cSeq ?_))))
      have hlt : k < s.size := by simp at c18; omega
      have hb := B_lt s k
      refine cReg (tQ rfl (qMove rfl) (tQ rfl (qIdxAddr Tryd.runUnderlying41 Tryd.sizeOf5 rfl rfl rfl (by omega)) (tQ rfl (qLd1 Tryd.isAgg5 rfl (hB15 k hlt)) (tQ rfl (qAssign rfl) (tQ rfl (qAssign rfl) (tEnd (xThen (cSeq (cReg (tQ rfl (qMove rfl) (tQ rfl (qMove rfl) (tQ rfl (qConv Tryd.runUnderlying5 Tryd.runUnderlying21 rfl (w32 (by omega) (by omega))) (tBuildSlice rfl Tryd.runUnderlying72 Tryd.sizeOf21 Tryd.zeroValue21 rfl rfl rfl rfl (cs := [_]) fun b25 => (tAppend (bytes := 4) 1 rfl Tryd.runUnderlying72 Tryd.sizeOf21 Tryd.typeInfo21 rfl Tryd.zeroValue21 rfl Tryd.runUnderlying72 rfl rfl rfl rfl rfl hU (by simp) rfl (by simp [Value.oneCell']) (fun w' s' => reads_blk 0 rfl rfl s') (by omega) fun A26 c26 h26 => ?_))))))))))))))
      refine tQ rfl (qAssign rfl) (tEnd (xThen (cReg (tQ rfl (qMove rfl) (tQ rfl (qMove rfl) (tBuildSlice rfl Tryd.runUnderlying24 Tryd.sizeOf3 Tryd.zeroValue3 rfl rfl rfl rfl (cs := [_]) fun b29 => (tAppend (bytes := 8) 3 rfl Tryd.runUnderlying24 Tryd.sizeOf3 Tryd.typeInfo3 rfl Tryd.zeroValue3 rfl Tryd.runUnderlying24 rfl rfl rfl rfl rfl hP (by simp) rfl (by simp [Value.oneCell']) (fun w' s' => reads_blk 0 rfl rfl s') (by omega) fun A30 c30 h30 => (tQ rfl (qAssign rfl) (tEnd (xBlock (xThen (cReg (tQ rfl (qAdd rfl rfl (w64 (by omega) (by omega))) (tQ rfl (qMove rfl) (tEnd ?_)))))))))))))))
      refine xRound _ (k + 1, A26, c26, A30, c30) ?_ (by dsimp only; omega) (le_of ⟨rfl, rfl, rfl, rfl, rfl, rfl, trivial⟩) (fun _ s => by simpa [List.range_succ] using s.less (.cons _ (.cons _ (.refl _))))
      exact ⟨hlt, h26, h30⟩
    · refine cExit (xExitThen (xExitThen (xExitBlock (xThen (cSeq ?_)))))
      have hke : k = s.size := by simp at c18; omega
      subst hke
      refine cReg (tQ rfl (qMove rfl) (tQ rfl (qMove rfl) (tQ rfl (qMove rfl) (tQ rfl (qLenStr Tryd.runUnderlying9 rfl rfl) (tBuildSlice rfl Tryd.runUnderlying24 Tryd.sizeOf3 Tryd.zeroValue3 rfl rfl rfl rfl (cs := [_]) fun b36 => (tAppend (bytes := 8) 2 rfl Tryd.runUnderlying24 Tryd.sizeOf3 Tryd.typeInfo3 rfl Tryd.zeroValue3 rfl Tryd.runUnderlying24 rfl rfl rfl rfl rfl hP (by simp) rfl (by simp [Value.oneCell']) (fun w' s' => reads_blk 0 rfl rfl s') (by omega) fun A37 c37 h37 => (tQ rfl (qAssign rfl) (tQ rfl (qAssign rfl) (tEnd (xThen (cRet ?_)))))))))))
      have hl : (mU true s).length = s.size := by simp [mU]
      refine xRet2 _ _ Tryd.results101 rfl rfl fun w' s' => ⟨s'.toExt hS15, _, fresh_from _ _, U.map (fun b => ⟨b, 0, none⟩), cU, A37.map (fun b => ⟨b, 0, none⟩), c37, by rw [hl], ?_, ?_⟩
      · rw [hl]
        refine rdI_row (cap := cU) (e := 21) ?_ hl (fun e => (hU e).2)
        have := s'.atNew hS15 (.tail _ (.head _))
        simpa [mU, Function.comp_def] using this
      · rw [hl]
        refine rdI_row (cap := c37) (e := 3) ?_ (by simp [mP]) (fun e => (h37 e).2)
        have := s'.atNew hS15 (.tail _ (.tail _ (.head _)))
        simpa [mP, List.range_succ, Function.comp_def] using this

theorem with_ {F : Hp} {w : World} {B : Option Addr} {n c k : Nat} {xs : List Int} {z : Int} (hF : Sub F (hp w)) (hx : RdI F .i64 B n xs) (hn : n ≤ 1000000000) (hk : k < n) :
    Calls Tryd.prog 102 [.slice B n c, .int .i64 k, .int .i64 z].toArray w (fun e w' => ∃ v, e = .returned v ∧ ∃ C, Own w w' C ∧ ∃ b cap, v = rowV (some b) n cap ∧ C = [row (some b) cap 3 1 ((xs.set k z).map (.int .i64 ·))]) := by
  replace hx := hx.mono hF
  have hxl := hx.len
  obtain ⟨bx, ox, rfl, hxi⟩ := hx.at_ (by omega)
  have hat : atN (hp w) bx ox (n * 1) = some (xs.map (.int .i64 ·)) := rdI_atN hxl (by omega) hxi
  refine Calls.mono (enterG (R := fun v w' => ∃ C, Own w w' C ∧ ∃ b cap, v = rowV (some b) n cap ∧ C = [row (some b) cap 3 1 ((xs.set k z).map (.int .i64 ·))]) 15 Tryd.func102 Tryd.ntmps102 rfl rfl (WS.start w) ?_) (fun e w' ⟨v, h1, h2⟩ => ⟨v, h1, h2⟩)
  refine cSeq (cReg (tQ rfl (qAssign rfl) (tEnd (xThen (cSeq (cNilRow 3 1 (cReg (tQ rfl (qMove rfl) (tAppend (bytes := 8) 0 rfl Tryd.runUnderlying24 Tryd.sizeOf3 Tryd.typeInfo3 rfl Tryd.zeroValue3 rfl Tryd.runUnderlying24 rfl rfl rfl rfl rfl (fun _ => ⟨rfl, rfl⟩) rfl (by simp [hxl]) (by simp [Value.oneCell']) (fun w' s' => reads_slice (atN_mono s'.sub hat)) (by omega) fun A9 c9 h9 => (tQ rfl (qAssign rfl) (tEnd (xThen (cSeq ?_)))))))))))))
  obtain ⟨b, rfl⟩ : ∃ b, A9 = some b := by
    cases A9 with
    | none => have := (h9 rfl).2; omega
    | some b => exact ⟨b, rfl⟩
  rw [Nat.zero_add]
  refine cReg (tQ rfl (qMove rfl) (tQ rfl (qMove rfl) (tQ rfl (qMove rfl) (tQ rfl (qIdxAddr Tryd.runUnderlying24 Tryd.sizeOf3 rfl rfl rfl (by omega)) (tStore1Row 0 Tryd.sizeOf3 rfl rfl rfl rfl (by simp; omega) (tEnd (xThen (cSeq (cReg (tQ rfl (qMove rfl) (tQ rfl (qAssign rfl) (tEnd (xThen (cRet ?_))))))))))))))
  refine xRet1 _ Tryd.results102 rfl fun w' s' => ⟨_, s'.toOwn (Sub.refl _), b, c9, rfl, ?_⟩
  simp [List.map_set]

theorem visit_ {F : Hp} {M : List Chunk} {w0 w : World} {be bb f wl D : Nat} {p : Prg} {s : ByteArray} {ws : List Nat} {a bd lv : Nat} {V : Value} (s0 : WS F (blk bb (u64c ws) 207 :: M) w0 w) (he : Eng F be bb p s f wl) (hD : D + f = (mU p.raw s).length + 1)
    (hk : KeyOk p.insts.length D f (mkOf p.insts) (a, bd, lv)) (hnd : p.insts.length * D ≤ 1048576) (hsz : s.size ≤ 1000000000) (hwl : ws.length = wl) (hsm : small ws) (hcap : p.insts.length * D * rankOf (mkOf p.insts) 65 < 64 * wl) :
    Calls Tryd.prog 103 [.pointer (some ⟨be, 0, none⟩), .agg #[.int .i64 a, .int .i64 bd, .int .i64 lv, V]].toArray w (fun e w' => ∃ v, e = .returned v ∧ ∃ F' M', (v = .bool (!tb ws (pkey D f (rankOf (mkOf p.insts) 65) (mkOf p.insts) (a, bd, lv))) ∧ F' = F ∧ M' = blk bb (u64c (mark ws (pkey D f (rankOf (mkOf p.insts) 65) (mkOf p.insts) (a, bd, lv)))) 207 :: M) ∧ WS F' M' w0 w') := by
  obtain ⟨AP, cP, hpl, -⟩ := he.places
  have hml := mU_len p.raw s
  have hplt := pkey_lt hk
  have hL : rankOf (mkOf p.insts) 65 ≤ 65 := rank_le _ _
  have hr := he.ranks lv hk.lv hk.mkd
  have ha := hk.at_
  have hlo := hk.lo
  have hhi := hk.hi
  have hlv := hk.lv
  have hrl : rankOf (mkOf p.insts) lv ≤ 65 := Nat.le_trans (rank_le _ _) (Nat.le_trans hk.lv (by omega))
  simp only at ha hlo hhi hlv
  have hb1 : p.insts.length * D * rankOf (mkOf p.insts) 65 ≤ 1048576 * 65 := Nat.mul_le_mul hnd hL
  have hb2 : a * D ≤ 1048576 := Nat.le_trans (Nat.mul_le_mul_right D (Nat.le_of_lt ha)) hnd
  obtain ⟨kk, hkk⟩ : ∃ k, pkey D f (rankOf (mkOf p.insts) 65) (mkOf p.insts) (a, bd, lv) = k := ⟨_, rfl⟩
  rw [hkk] at hplt ⊢
  have hkk2 : (a * D + bd - f) * rankOf (mkOf p.insts) 65 + rankOf (mkOf p.insts) lv = kk := hkk
  obtain ⟨q1, hq1⟩ : ∃ q, q = a * D := ⟨_, rfl⟩
  rw [← hq1] at hb2 hkk2
  obtain ⟨q2, hq2⟩ : ∃ q, q = (q1 + bd - f) * rankOf (mkOf p.insts) 65 := ⟨_, rfl⟩
  rw [← hq2] at hkk2
  have hkl : kk / 64 < ws.length := by omega
  have hm2 : (2 : Nat) ^ (kk % 64) < 2 ^ 64 := Nat.pow_lt_pow_right (by omega) (Nat.mod_lt _ (by omega))
  refine Calls.mono (enterG (R := fun v w' => ∃ F' M', (v = .bool (!tb ws kk) ∧ F' = F ∧ M' = blk bb (u64c (mark ws kk)) 207 :: M) ∧ WS F' M' w0 w') 66 Tryd.func103 Tryd.ntmps103 rfl rfl s0 ?_) (fun e w' ⟨v, h1, h2⟩ => ⟨v, h1, h2⟩)
  refine cSeq (cReg (tBox rfl rfl rfl (cs := [_, _, _, _]) fun b3 => (tQ rfl (qAssign rfl) (tEnd (xThen (cSeq (cDrawM 34 [(0, true), (1, true), (2, true), (3, true), (4, true), (5, true), (6, true), (7, true), (8, true), (9, true), (10, true), (11, true), (12, true), (13, true), (14, true), (15, true), (16, true), (17, true), (18, true), (19, true), (20, true), (21, true), (22, true), (23, true), (24, true), (25, true), (26, true), (27, true), (28, true), (29, true), (30, true), (31, true), (32, true), (33, true)] Tryd.mixed (by kernel_rfl) (fun _ _ _ _ _ h => h) (dQ rfl rfl (qFieldAddr Tryd.runUnderlying167 rfl Tryd.sizeOf3 rfl rfl rfl) (fun _ s => s) (dQ rfl rfl (qLd1M 0 Tryd.isAgg3 rfl rfl rfl) (fun _ s => s) (dQ rfl rfl (qMove rfl) (fun _ s => s) (dQ rfl rfl (qNil rfl) (fun _ s => s) (dQ rfl rfl (qFieldAddr Tryd.runUnderlying92 rfl Tryd.sizeOf24 rfl rfl rfl) (fun _ s => s) (dQ rfl rfl (qLd1 Tryd.isAgg24 rfl hpl) (fun _ s => s) (dQ rfl rfl (qLen Tryd.runUnderlying24 rfl rfl) (fun _ s => s) ?_))))))))))))))
  refine dQ rfl rfl (qMove rfl) (fun _ s => s) (dQ rfl rfl (qNil rfl) (fun _ s => s) (dQ rfl rfl (qFieldAddr Tryd.runUnderlying92 rfl Tryd.sizeOf3 rfl rfl rfl) (fun _ s => s) (dQ rfl rfl (qLd1 Tryd.isAgg3 rfl he.first) (fun _ s => s) (dQ rfl rfl (qSub rfl rfl (c := ((D : Nat) : Int)) (by rw [w64 (by omega) (by omega)]; omega)) (fun _ s => s) (dQ rfl rfl (qMul rfl rfl (mulN hq1 (by omega))) (fun _ s => s) (dQ rfl rfl (qFieldAddr Tryd.runUnderlying167 rfl Tryd.sizeOf3 rfl rfl rfl) (fun _ s => s) (dQ rfl rfl (qLd1M 0 Tryd.isAgg3 rfl rfl rfl) (fun _ s => s) (dQ rfl rfl (qAdd rfl rfl (w64 (by omega) (by omega))) (fun _ s => s) (dQ rfl rfl (qMove rfl) (fun _ s => s) (dQ rfl rfl (qNil rfl) (fun _ s => s) (dQ rfl rfl (qFieldAddr Tryd.runUnderlying92 rfl Tryd.sizeOf3 rfl rfl rfl) (fun _ s => s) ?_)))))))))))
  refine dQ rfl rfl (qLd1 Tryd.isAgg3 rfl he.first) (fun _ s => s) (dQ rfl rfl (qSub rfl rfl (c := ((q1 + bd - f : Nat) : Int)) (by rw [w64 (by omega) (by omega)]; omega)) (fun _ s => s) (dQ rfl rfl (qMove rfl) (fun _ s => s) (dQ rfl rfl (qNil rfl) (fun _ s => s) (dQ rfl rfl (qFieldAddr Tryd.runUnderlying92 rfl Tryd.sizeOf3 rfl rfl rfl) (fun _ s => s) (dQ rfl rfl (qLd1 Tryd.isAgg3 rfl he.levels) (fun _ s => s) (dQ rfl rfl (qMul rfl rfl (mulN hq2 (by omega))) (fun _ s => s) (dQ rfl rfl (qMove rfl) (fun _ s => s) (dQ rfl rfl (qFieldAddr Tryd.runUnderlying167 rfl Tryd.sizeOf3 rfl rfl rfl) (fun _ s => s) (dQ rfl rfl (qLd1M 0 Tryd.isAgg3 rfl rfl rfl) (fun _ s => s) (dQ rfl rfl (qNil rfl) (fun _ s => s) (dQ rfl rfl (qFieldAddr Tryd.runUnderlying92 rfl Tryd.sizeOf89 rfl rfl rfl) (fun _ s => s) ?_)))))))))))
  refine dQ rfl rfl (qIdxAddrArr Tryd.runUnderlying89 Tryd.sizeOf3 rfl rfl rfl (by omega)) (fun _ s => s) (dQ rfl rfl (qLd1 Tryd.isAgg3 rfl (by simpa using hr)) (fun _ s => s) (dQ rfl rfl (qAdd rfl rfl (c := ((kk : Nat) : Int)) (by rw [w64 (by omega) (by omega)]; omega)) (fun _ s => s) (dEnd (tQ rfl (qAssign rfl) (tEnd (xThen (cSeq (cReg (tQ rfl (qMove rfl) (tQ rfl (qRem rfl rfl (by omega) (remN kk 64)) (tQ rfl (qShl rfl rfl (by omega) (shl_u64 (Nat.mod_lt _ (by omega)))) (tQ rfl (qAssign rfl) (tEnd (xThen (cSeq (cSeq (cReg (tQ rfl (qMove rfl) ?_))))))))))))))))))
  refine tQ rfl (qNil rfl) (tQ rfl (qFieldAddr Tryd.runUnderlying92 rfl Tryd.sizeOf90 rfl rfl rfl) (tQ rfl (qLd1 Tryd.isAgg90 rfl he.been) (tQ rfl (qMove rfl) (tQ rfl (qQuo rfl rfl (by omega) (quoN kk 64 (by omega))) (tQ rfl (qIdxAddr Tryd.runUnderlying90 Tryd.sizeOf207 rfl rfl rfl (by omega)) (tQ rfl (qLd1M 1 Tryd.isAgg207 rfl rfl (u64c_at hkl)) (tQ rfl (qMove rfl) (tQ rfl (qAnd rfl rfl (bv_and (hsm _) hm2)) (tQ rfl (qNe rfl rfl) (tEnd (xThen ?_)))))))))))
  refine cIf rfl (fun c54 => ?_) (fun c54 => ?_)
  · refine cSeq (cReg (tQ rfl (qAssign rfl) (tEnd (xThen (cRet (xRetThen ?_))))))
    have htb : tb ws kk = true := by rw [and_bit] at c54; exact c54
    refine xRet1 _ Tryd.results103 rfl fun w' s' => ⟨F, _, ⟨by rw [htb]; rfl, rfl, rfl⟩, ?_⟩
    rw [mark_same htb]
    exact s'.less (.cons _ (.refl _))
  · refine cSkip (xThen (cSeq (cReg (tQ rfl (qMove rfl) (tQ rfl (qNil rfl) (tQ rfl (qFieldAddr Tryd.runUnderlying92 rfl Tryd.sizeOf90 rfl rfl rfl) (tQ rfl (qLd1 Tryd.isAgg90 rfl he.been) (tQ rfl (qMove rfl) (tQ rfl (qQuo rfl rfl (by omega) (quoN kk 64 (by omega))) (tQ rfl (qIdxAddr Tryd.runUnderlying90 Tryd.sizeOf207 rfl rfl rfl (by omega)) (tQ rfl (qLd1M 1 Tryd.isAgg207 rfl rfl (u64c_at hkl)) (tQ rfl (qMove rfl) (tQ rfl (qOr rfl rfl (bv_or (hsm _) hm2)) (tQ rfl (qIdxAddr Tryd.runUnderlying90 Tryd.sizeOf207 rfl rfl rfl (by omega)) ?_))))))))))))))
    refine tStore1 1 Tryd.sizeOf207 rfl rfl rfl rfl (by simp [u64c]; omega) (tEnd (xThen (cSeq (cReg (tQ rfl (qAssign rfl) (tEnd (xThen (cRet ?_))))))))
    have htb : tb ws kk = false := by rw [and_bit] at c54; exact c54
    refine xRet1 _ Tryd.results103 rfl fun w' s' => ⟨F, _, ⟨by rw [htb]; rfl, rfl, rfl⟩, ?_⟩
    have s2 := s'.less (.cons _ (.refl _))
    rw [u64c_set] at s2
    exact s2

end Go.V
namespace Go.V
open Go.Proofs
set_option linter.unusedVariables false
set_option linter.unusedSimpArgs false

theorem lookR {F : Hp} {w : World} {s : ByteArray} {p : Nat} {n : Int} {raw : Bool} (hF : Sub F (hp w)) (hT : T F) (hple : p ≤ s.size) (hs : s.size ≤ 1000000000) (hn : 1 ≤ n ∧ n ≤ 8) (hr : raw = false → n ≤ 6) (hbd : raw = false → brd s p) :
    Calls Tryd.prog 105 [.int .i64 n, .string s, .int .i64 p, .bool raw].toArray w (fun e w' => e = .returned (.tuple #[.bool (holds n s p), .int .i64 0]) ∧ Ext w w') := by
  cases raw
  · exact lookF hF hT hple hs ⟨hn.1, hr rfl⟩ (hbd rfl)
  · exact lookT hF hT hple hs hn
set_option maxHeartbeats 4000000 in
theorem from_B {F : Hp} {M : List Chunk} {w0 w : World} {be bb f wl D bd : Nat} {p : Prg} {s : ByteArray} {ws : List Nat} {V0 : Vis} {longest : Bool} (s0 : WS F (blk bb (u64c ws) 207 :: M) w0 w) (he : Eng F be bb p s f wl) (hT : T F) (hck : checkOk p) (hD : D + f = (mU p.raw s).length + 1)
    (hbd : f ≤ bd ∧ bd < f + D) (hnd : p.insts.length * D ≤ 1048576) (hsz : s.size ≤ 2000000) (hwl : ws.length = wl) (hsm : small ws) (hcap : p.insts.length * D * rankOf (mkOf p.insts) 65 < 64 * wl) (hV : VisRel p.insts.length D f (mkOf p.insts) ws V0) :
    Calls Tryd.prog 49 [.pointer (some ⟨be, 0, none⟩), .int .i64 bd, .bool longest].toArray w (fun e w' => ∃ v, e = .returned v ∧ ∃ F' M', FromP p s D f wl longest (fin (machOf p s) V0 [startT p s bd]) F bb M v F' M' ∧ WS F' M' w0 w') := by
  obtain ⟨r, hr⟩ : ∃ r, fin (machOf p s) V0 [startT p s bd] = r := ⟨_, rfl⟩
  rw [hr]
  have hn20 := hck.1.2
  have hn1 := hck.1.1
  have hg40 : p.names.length ≤ 40 := hck.2.1.1
  have hml := mU_len p.raw s
  have hpl := mP_len p.raw s
  have hroom := roomN_le (p := p) hn20 hsz
  obtain ⟨BN, cN, hnm⟩ := he.names
  obtain ⟨AU, cU, hU1, hU⟩ := he.units
  obtain ⟨AP, cP, hP1, hP⟩ := he.places
  obtain ⟨AI, cI, hI1, hI⟩ := he.insts
  obtain ⟨bP, oP, rfl, hPa⟩ := hP.at_ (by omega)
  obtain ⟨bI, oI, rfl, hIa⟩ := hI.at_ (by omega)
  have hst : KeyOk p.insts.length D f (mkOf p.insts) (startT p s bd).key := ⟨by show 0 < _; omega, hbd.1, hbd.2, Nat.le_refl _, mk_64 _⟩
  refine Calls.mono (enterG (R := fun v w' => ∃ F' M', FromP p s D f wl longest r F bb M v F' M' ∧ WS F' M' w0 w') 212 Tryd.func49 Tryd.ntmps49 rfl rfl s0 ?_) (fun e w' ⟨v, h1, h2⟩ => ⟨v, h1, h2⟩)
  refine cSeq (cReg (tQ rfl (qAssign rfl) (tEnd (xThen (cScope (cSeq (cReg (tQ rfl (qAssign rfl) (tEnd (xThen (cSeq (cReg (tQ rfl (qMove rfl) (tQ rfl (qNil rfl) (tQ rfl (qFieldAddr Tryd.runUnderlying92 rfl Tryd.sizeOf31 rfl rfl rfl) (tQ rfl (qFieldAddr Tryd.runUnderlying31 rfl Tryd.sizeOf29 rfl rfl rfl) (tQ rfl (qLd1 Tryd.isAgg29 rfl hnm) ?_)))))))))))))))))
  refine tQ rfl (qLen Tryd.runUnderlying29 rfl rfl) (tQ rfl (qMul rfl rfl (w64 (by omega) (by omega))) (tQ rfl (qAdd rfl rfl (w64 (by omega) (by omega))) (tMake (bytes := 8) rfl Tryd.runUnderlying24 Tryd.typeInfo3 rfl Tryd.sizeOf3 Tryd.zeroValue3 rfl rfl rfl (k := 2 * p.names.length + 2) (c := 2 * p.names.length + 2) (by omega) (by omega) (by omega) (by omega) (by omega) fun b27 => (tQ rfl (qAssign rfl) (tEnd (xThen (cSeq (cSeq (cReg (tQ rfl (qMove rfl) (tQ rfl (qLen Tryd.runUnderlying24 rfl rfl) (tQ rfl (qMove rfl) (tEnd (xThen (cBlock (cLoop (⟨fun (k : Nat) => [(0, .pointer (some ⟨be, 0, none⟩)), (1, .int .i64 bd), (2, .bool longest), (7, .slice none 0 0), (8, .slice (some ⟨b27, 0, none⟩) (2 * p.names.length + 2) (2 * p.names.length + 2)), (29, .int .i64 (2 * p.names.length + 2 : Nat)), (30, .int .i64 k)], fun (k : Nat) => F, fun (k : Nat) => blk b27 (List.replicate k (.int .i64 (-1)) ++ List.replicate (2 * p.names.length + 2 - k) (.int .i64 0)) 3 :: blk bb (u64c ws) 207 :: M, fun (k : Nat) => k ≤ 2 * p.names.length + 2, fun (k : Nat) => 2 * p.names.length + 2 - k⟩ : LI (Nat)) (loopStart _ 0 (Nat.zero_le _) (le_of ⟨rfl, rfl, rfl, rfl, rfl, rfl, rfl, trivial⟩) (fun _ s => by have s : WS _ (blk b27 (zcells [.int .i64 0] (2 * p.names.length + 2)) 3 :: _) _ _ := s; rw [zcells_one] at s; exact s)) ?_))))))))))))))))
  rintro k hk
  refine cSeq (cReg (tQ rfl (qLt rfl rfl) (tEnd (xThen (cSeq ?_)))))
  refine cIf rfl (fun c31 => ?_) (fun c31 => ?_)
  · refine cSkip (xThen (cSeq (cBlock (cSeq ?_))))
    have hlt : k < 2 * p.names.length + 2 := by simp at c31; omega
    refine cReg (tQ rfl (qMove rfl) (tQ rfl (qAssign rfl) (tEnd (xThen (cReg (tQ rfl (qMove rfl) (tQ rfl (qMove rfl) (tQ rfl (qIdxAddr Tryd.runUnderlying24 Tryd.sizeOf3 rfl rfl rfl (by omega)) (tStore1 0 Tryd.sizeOf3 rfl rfl rfl rfl (by simp; omega) (tEnd (xBlock (xThen (cReg (tQ rfl (qAdd rfl rfl (w64 (by omega) (by omega))) (tQ rfl (qMove rfl) (tEnd ?_))))))))))))))))
    refine xRound _ (k + 1) ?_ (by dsimp only; omega) (le_of ⟨rfl, rfl, rfl, rfl, rfl, rfl, rfl, trivial⟩) (fun _ s => by have s : WS _ (blk b27 ((List.replicate k (Value.int .i64 (-1)) ++ List.replicate (2 * p.names.length + 2 - k) (Value.int .i64 0)).set (0 + k * 1) (Value.int .i64 (-1))) 3 :: _) _ _ := s; rw [fill_set hlt] at s; exact s)
    omega
  · refine cExit (xExitThen (xExitThen (xExitBlock (xThen (cSeq ?_)))))
    have hke : k = 2 * p.names.length + 2 := by simp at c31; omega
    subst hke
    refine cFreeze 0 rfl fun FS hSS hAS hNS => ?_
    have hRS : RdI FS .i64 (some ⟨b27, 0, none⟩) (2 * p.names.length + 2) (List.replicate (2 * p.names.length + 2) (-1 : Int)) := rdI_blk (e := 3) (by simpa using hAS) (by simp)
    have hnmS := at1_mono hSS hnm
    refine cReg (tQ rfl (qMove rfl) (tQ rfl (qMove rfl) (tQ rfl (qMove rfl) (tQ rfl (qNil rfl) (tQ rfl (qFieldAddr Tryd.runUnderlying92 rfl Tryd.sizeOf24 rfl rfl rfl) (tQ rfl (qLd1 Tryd.isAgg24 rfl (at1_mono hSS hP1)) (tQ rfl (qMove rfl) (tQ rfl (qIdxAddr Tryd.runUnderlying24 Tryd.sizeOf3 rfl rfl rfl (by omega)) (tQ rfl (qLd1 Tryd.isAgg3 rfl (at1_mono hSS (hPa bd (by omega)))) (tCallO rfl Tryd.call102 (first := []) (captured := []) rfl rfl (Φ := fun v C => ∃ b cap, v = rowV (some b) (2 * p.names.length + 2) cap ∧ C = [row (some b) cap 3 1 ((((List.replicate (2 * p.names.length + 2) (-1 : Int)).set 0 (gZ (mP p.raw s) bd))).map (.int .i64 ·))]) (fun w' s' => with_ (F := FS) (k := 0) s'.sub hRS (by omega) (by omega)) fun v C hΦ => ?_))))))))))
    obtain ⟨b46, c46, rfl, rfl⟩ := hΦ
    refine tFreeze 0 rfl fun FA hSA hAA hNA => (tQ rfl (qBuildS build167 (cs := [_, _, _, _]) rfl rfl) (tBuildSlice rfl Tryd.runUnderlying168 Tryd.sizeOf167 Tryd.zeroValue167 rfl rfl rfl rfl (cs := [_, _, _, _]) fun b48 => (tQ rfl (qAssign rfl) (tEnd (xThen (cSeq (cLabel (xThen (cSeq (cBlock (cLoop (⟨fun (⟨F1, ws1, V, stk, A, cap, best, Ab, cb⟩ : BSt) => [(0, .pointer (some ⟨be, 0, none⟩)), (2, .bool longest), (7, rowV Ab (best.getD []).length cb), (10, rowV (some A) stk.length cap)], fun (⟨F1, ws1, V, stk, A, cap, best, Ab, cb⟩ : BSt) => F1, fun (⟨F1, ws1, V, stk, A, cap, best, Ab, cb⟩ : BSt) => blk bb (u64c ws1) 207 :: row (some A) cap 167 4 (stk.flatMap tc) :: row Ab cb 3 1 ((best.getD []).map (.int .i64 ·)) :: M, fun (⟨F1, ws1, V, stk, A, cap, best, Ab, cb⟩ : BSt) => BOk F p s D f wl longest r ⟨F1, ws1, V, stk, A, cap, best, Ab, cb⟩, fun (⟨F1, ws1, V, stk, A, cap, best, Ab, cb⟩ : BSt) => 3 * unvis (machOf p s) V + stk.length⟩ : LI (BSt)) (loopStart _ (BSt.mk FA ws V0 [(startT p s bd, rowV (some b46) (2 * p.names.length + 2) c46)] b48 1 none none 0) (start_ok hr (hSS.trans hSA) hwl hsm hV hst hAA) (le_of ⟨rfl, rfl, rfl, rfl, trivial⟩) (fun _ s => (((s.blkRow 0 rfl 1 rfl).nilRow 3 1).perm (List.perm_middle (l₁ := [_, _]))).perm (List.Perm.cons _ (List.Perm.swap _ _ _)))) ?_)))))))))))
    rintro ⟨F1, ws1, V, stk, A, cap, best, Ab, cb⟩ hB
    have hB0 := hB
    obtain ⟨hsub, hwsl, hsm1, hvis, hstk, hrun, hbst, hlen⟩ := hB
    dsimp only at hsub hwsl hsm1 hvis hstk hrun hbst hlen
    refine cSeq (cSeq (cReg (tQ rfl (qMove rfl) (tQ rfl (qLen Tryd.runUnderlying168 rfl rfl) (tQ rfl (qGt rfl rfl) (tEnd (xThen ?_)))))))
    refine cIf rfl (fun c51 => ?_) (fun c51 => ?_)
    · refine cSkip (xThen (cBlock (cSeq ?_)))
      obtain ⟨stk', x, rfl⟩ : ∃ l x, stk = l ++ [x] := by
        rcases List.eq_nil_or_concat stk with h | ⟨l, x, h⟩
        · subst h; simp at c51
        · exact ⟨l, x, by simpa using h⟩
      have hx := hstk x (by simp)
      obtain ⟨⟨a, bd', lv, sl⟩, vv⟩ := x
      obtain ⟨hkey, hsll, Av, cv, hvv, hsr⟩ := hx
      dsimp only at hsll hvv hsr
      subst hvv
      have hkey : KeyOk p.insts.length D f (mkOf p.insts) (a, bd', lv) := hkey
      have hsl1 : (stk' ++ [((⟨a, bd', lv, sl⟩ : Thr), Value.slice Av (2 * p.names.length + 2) cv)]).length = stk'.length + 1 := by simp
      have ha : a < p.insts.length := hkey.at_
      have hblo : f ≤ bd' := hkey.lo
      have hbhi : bd' < f + D := hkey.hi
      have hlv : lv ≤ 64 := hkey.lv
      have he1 := he.mono hsub
      have hT1 := hT.mono hsub
      refine cFact (φ := stk'.length + 1 ≤ cap) (fun _ s => by
        obtain ⟨sp, _, h2⟩ := row_at (s.get 1 rfl) rfl
        rw [List.length_append, flat_len] at h2
        simp only [List.length_append, List.length_singleton] at h2
        omega) fun hcapS => ?_
      refine cReg (tQ rfl (qMove rfl) (tQ rfl (qMove rfl) (tQ rfl (qLen Tryd.runUnderlying168 rfl rfl) (tQ rfl (qSub rfl rfl (c := ((stk'.length : Nat) : Int)) (by rw [w64 (by omega) (by omega)]; omega)) (tQ rfl (qIdxAddr Tryd.runUnderlying168 Tryd.sizeOf167 rfl rfl rfl (by omega)) (tQ rfl (qLdNRow 1 Tryd.isAgg167 Tryd.sizeOf167 rfl rfl (vs := [.int .i64 a, .int .i64 bd', .int .i64 lv, .slice Av (2 * p.names.length + 2) cv]) (by rw [flat_len]; omega) (flat_last _ _)) (tAlloc rfl Tryd.zeroValue167 rfl (cs := [_, _, _, _]) fun b11 => (tStoreN 0 Tryd.sizeOf167 rfl rfl rfl (by simp [Value.oneCell']) rfl (by simp) (tEnd (xThen (cSeq (cReg (tQ rfl (qMove rfl) (tQ rfl (qMove rfl) ?_))))))))))))))
      refine tQ rfl (qLen Tryd.runUnderlying168 rfl rfl) (tQ rfl (qSub rfl rfl (c := ((stk'.length : Nat) : Int)) (by rw [w64 (by omega) (by omega)]; omega)) (tQ rfl (qSliceRow Tryd.runUnderlying168 Tryd.sizeOf167 rfl rfl rfl (by omega)) (tQ rfl (qAssign rfl) (tEnd (xThen (cSeq (cSeq (cMem _ (fun _ s => s.cutRow 2 (ys := tc (⟨a, bd', lv, sl⟩, Value.slice Av (2 * p.names.length + 2) cv)) (by simp only [flat_snoc]; rfl)) (cReg (tQ rfl (qMove rfl) (tQ rfl (qLdNM 0 Tryd.isAgg167 Tryd.sizeOf167 rfl rfl rfl rfl) (tMem _ (fun _ s => s.perm (List.perm_middle (l₁ := [_]))) (tCallG rfl Tryd.call103 (first := []) (captured := []) rfl rfl (fun w' s' => visit_ s' he1 hD hkey hnd (by omega) hwsl hsm1 hcap) fun v F' M' hP => ?_)))))))))))))
      obtain ⟨e1, e2, e3⟩ := hP
      subst e1; subst e3
      obtain rfl := e2.symm
      refine tQ rfl (qNot rfl) (tEnd (xThen ?_))
      refine cIf rfl (fun c66 => ?_) (fun c66 => ?_)
      · refine cExit (xExitThen (xExitBlock ?_))
        refine xRound _ (BSt.mk F1 (mark ws1 (pkey D f (rankOf (mkOf p.insts) 65) (mkOf p.insts) (a, bd', lv))) V stk' A cap best Ab cb) ?_ (by dsimp only; simp only [List.length_append, List.length_singleton]; omega) (le_of ⟨rfl, rfl, rfl, (by first | rfl | simp [look]), trivial⟩) (fun _ s => s.less (.cons_cons _ (.cons _ (.cons_cons _ (.cons_cons _ (.refl _))))))
        have htb : tb ws1 (pkey D f (rankOf (mkOf p.insts) 65) (mkOf p.insts) (a, bd', lv)) = true := by simpa using c66
        exact hB0.seen (by show V (a, bd', lv) = true; rw [← hvis _ hkey]; exact htb) htb
      · refine cSkip (xThen (cSeq ?_))
        have hnv : tb ws1 (pkey D f (rankOf (mkOf p.insts) 65) (mkOf p.insts) (a, bd', lv)) = false := by simpa using c66
        have hkm : (a, bd', lv) ∈ keys (machOf p s) := hkey.mem hD
        have hVf : V (a, bd', lv) = false := by rw [← hvis _ hkey]; exact hnv
        have hun := unvis_add hkm hVf
        obtain ⟨Bs, ms, cs', hR, hN⟩ := hIa a ha
        replace hR := hR.mono hsub
        replace hN := atN_mono hsub hN
        have hin := hck.2.2 a ha
        obtain ⟨xx, yy, nn, hxx, hyy, hnn, ho1, ho9, hX, hY, hSet, hSv, hLk, hMk⟩ := inst_nat hin
        rw [hxx, hyy, hnn] at hN
        have hms : ms ≤ 1000000000 := by
          have := (hI.wf _ (gI_mem ha)).2.2.2.2
          rw [hR.len] at this
          have hBig : Big = 1048576 := rfl
          omega
        obtain ⟨q, hq, hqs, hqb⟩ := place_nat (s := s) (raw := p.raw) (i := bd') (by omega)
        have hPq : at1 F1 bP (oP + bd' * 1) = some (.int .i64 (q : Nat)) := by
          have := at1_mono hsub (hPa bd' (by omega))
          rw [hq] at this
          exact this
        refine cDrawM 10 [(0, true), (1, true), (2, true), (3, true), (4, true), (5, true), (6, true), (7, true), (8, true), (9, false)] Tryd.mixed (by kernel_rfl) (fun _ _ _ _ _ h => h) (dQ rfl rfl (qMove rfl) (fun _ s => s) (dQ rfl rfl (qNil rfl) (fun _ s => s) (dQ rfl rfl (qFieldAddr Tryd.runUnderlying92 rfl Tryd.sizeOf31 rfl rfl rfl) (fun _ s => s) (dQ rfl rfl (qFieldAddr Tryd.runUnderlying31 rfl Tryd.sizeOf28 rfl rfl rfl) (fun _ s => s) (dQ rfl rfl (qLd1 Tryd.isAgg28 rfl (at1_mono hsub hI1)) (fun _ s => s) (dQ rfl rfl (qFieldAddr Tryd.runUnderlying167 rfl Tryd.sizeOf3 rfl rfl rfl) (fun _ s => s) (dQ rfl rfl (qLd1M 1 Tryd.isAgg3 rfl rfl rfl) (fun _ s => s) (dQ rfl rfl (qIdxAddr Tryd.runUnderlying28 Tryd.sizeOf44 rfl rfl rfl (by omega)) (fun _ s => s) (dQ rfl rfl (qLdN Tryd.isAgg44 Tryd.sizeOf44 rfl hN) (fun _ s => s) (dAlloc (cs := [_, _, _, _, _]) rfl rfl Tryd.zeroValue44 rfl (fun _ _ s => s.less (.cons _ (.refl _))) fun b12 => (dEnd ?_)))))))))))
        refine tStoreN 0 Tryd.sizeOf44 rfl rfl rfl (by simp [Value.oneCell']) rfl (by simp) (tEnd (xThen (cSeq (cReg (tQ rfl (qFieldAddr Tryd.runUnderlying44 rfl Tryd.sizeOf3 rfl rfl rfl) (tQ rfl (qLd1M 0 Tryd.isAgg3 rfl rfl rfl) (tQ rfl (qFieldAddr Tryd.runUnderlying167 rfl Tryd.sizeOf3 rfl rfl rfl) (tStore1 2 Tryd.sizeOf3 rfl rfl rfl rfl (by simp) (tEnd (xThen ?_))))))))))
        refine cCut (⟨fun (⟨F2, t2, v2, stk2, A2, cap2⟩ : Hp × Thr × Value × List (Thr × Value) × Nat × Nat) => [(0, .pointer (some ⟨be, 0, none⟩)), (2, .bool longest), (7, rowV Ab (best.getD []).length cb), (10, rowV (some A2) stk2.length cap2), (11, .pointer (some ⟨b11, 0, none⟩))], fun (⟨F2, t2, v2, stk2, A2, cap2⟩ : Hp × Thr × Value × List (Thr × Value) × Nat × Nat) => F2, fun (⟨F2, t2, v2, stk2, A2, cap2⟩ : Hp × Thr × Value × List (Thr × Value) × Nat × Nat) => blk bb (u64c (mark ws1 (pkey D f (rankOf (mkOf p.insts) 65) (mkOf p.insts) (a, bd', lv)))) 207 :: blk b11 (tc (t2, v2)) 167 :: row (some A2) cap2 167 4 (stk2.flatMap tc) :: row Ab cb 3 1 ((best.getD []).map (.int .i64 ·)) :: M, fun (⟨F2, t2, v2, stk2, A2, cap2⟩ : Hp × Thr × Value × List (Thr × Value) × Nat × Nat) => Sub F1 F2 ∧ TOk F2 p D f (t2, v2) ∧ (∀ x ∈ stk2, TOk F2 p D f x) ∧ fin (machOf p s) V ((⟨a, bd', lv, sl⟩ : Thr) :: thrs stk') = fin (machOf p s) (V.add (a, bd', lv)) (t2 :: thrs stk2) ∧ stk2.length ≤ stk'.length + 1, fun (⟨F2, t2, v2, stk2, A2, cap2⟩ : Hp × Thr × Value × List (Thr × Value) × Nat × Nat) => 0⟩ : LI (Hp × Thr × Value × List (Thr × Value) × Nat × Nat)) ?_ ?_
        · refine cSeq (cReg (tQ rfl (qFieldAddr Tryd.runUnderlying44 rfl Tryd.sizeOf3 rfl rfl rfl) (tQ rfl (qLd1M 0 Tryd.isAgg3 rfl rfl rfl) (tEnd (xThen (cBlock (cSeq (cReg (tQ rfl (qEq rfl rfl) (tQ rfl (qAssign rfl) (tEnd (xThen ?_))))))))))))
          refine cIf rfl (fun c81 => ?_) (fun c81 => ?_)
          · refine cSeq (cSeq ?_)
            have hop : (gI p.insts a).op = 1 := by simpa using c81
            refine cDrawM 7 [(0, true), (1, true), (2, true), (3, true), (4, true), (5, true), (6, true)] Tryd.mixed (by kernel_rfl) (fun _ _ _ _ _ h => h) (dQ rfl rfl (qFieldAddr Tryd.runUnderlying167 rfl Tryd.sizeOf3 rfl rfl rfl) (fun _ s => s) (dQ rfl rfl (qLd1M 2 Tryd.isAgg3 rfl rfl rfl) (fun _ s => s) (dQ rfl rfl (qMove rfl) (fun _ s => s) (dQ rfl rfl (qNil rfl) (fun _ s => s) (dQ rfl rfl (qFieldAddr Tryd.runUnderlying92 rfl Tryd.sizeOf72 rfl rfl rfl) (fun _ s => s) (dQ rfl rfl (qLd1 Tryd.isAgg72 rfl (at1_mono hsub hU1)) (fun _ s => s) (dQ rfl rfl (qLen Tryd.runUnderlying72 rfl rfl) (fun _ s => s) (dEnd (tQ rfl (qEq rfl rfl) (tEnd (xThen ?_)))))))))))
            refine cIf rfl (fun c90 => ?_) (fun c90 => ?_)
            · refine cExit (xExitThen (xExitOther rfl (xExitThen (xExitBlock ?_))))
              refine xRound _ (BSt.mk F1 (mark ws1 (pkey D f (rankOf (mkOf p.insts) 65) (mkOf p.insts) (a, bd', lv))) (V.add (a, bd', lv)) stk' A cap best Ab cb) ?_ (by dsimp only; simp only [List.length_append, List.length_singleton]; omega) (le_of ⟨rfl, rfl, rfl, (by first | rfl | simp [look]), trivial⟩) (fun _ s => s.less (.cons _ (.cons_cons _ (.cons _ (.cons_cons _ (.cons_cons _ (.refl _)))))))
              have hstep : (machOf p s).step ⟨a, bd', lv, sl⟩ = .die := by
                have c90' : bd' = (mU p.raw s).length := by simp at c90; omega
                simp only [Mach.step, machOf, hop, if_true]
                exact if_pos c90'
              exact hB0.next (Sub.refl _) hkey hcap hkm hVf (fun y hy => hstk y (by simp [hy])) (fin_die hkm hVf hstep) (by omega)
            · refine cSkip (xThen (cSeq (cSeq ?_)))
              obtain ⟨bU, oU, rfl, hUa⟩ := hU.at_ (by simp at c90; omega)
              have hbu : bd' < (mU p.raw s).length := by simp at c90; omega
              refine cDrawM 15 [(0, true), (1, true), (2, true), (3, true), (4, true), (5, true), (6, true), (7, true), (8, true), (9, true), (10, false), (11, true), (12, true), (13, true), (14, true)] Tryd.mixed (by kernel_rfl) (fun _ _ _ _ _ h => h) (dQ rfl rfl (qFieldAddr Tryd.runUnderlying44 rfl Tryd.sizeOf42 rfl rfl rfl) (fun _ s => s) (dQ rfl rfl (qLd1M 0 Tryd.isAgg42 rfl rfl rfl) (fun _ s => s) (dQ rfl rfl (qMove rfl) (fun _ s => s) (dQ rfl rfl (qNil rfl) (fun _ s => s) (dQ rfl rfl (qFieldAddr Tryd.runUnderlying92 rfl Tryd.sizeOf72 rfl rfl rfl) (fun _ s => s) (dQ rfl rfl (qLd1 Tryd.isAgg72 rfl (at1_mono hsub hU1)) (fun _ s => s) (dQ rfl rfl (qFieldAddr Tryd.runUnderlying167 rfl Tryd.sizeOf3 rfl rfl rfl) (fun _ s => s) (dQ rfl rfl (qLd1M 2 Tryd.isAgg3 rfl rfl rfl) (fun _ s => s) (dQ rfl rfl (qIdxAddr Tryd.runUnderlying72 Tryd.sizeOf21 rfl rfl rfl (by omega)) (fun _ s => s) (dQ rfl rfl (qLd1 Tryd.isAgg21 rfl (at1_mono hsub (hUa bd' (by omega)))) (fun _ s => s) (dCallQ rfl rfl Tryd.call104 (first := []) (captured := []) rfl rfl (fun w' s' => hasSE s'.sub hT1 hR hms (hSet hop)) (fun _ s => s) ?_)))))))))))
              refine dQ rfl rfl (qMove rfl) (fun _ s => s) (dQ rfl rfl (qExtract rfl rfl) (fun _ s => s) (dQ rfl rfl (qExtract rfl rfl) (fun _ s => s) (dQ rfl rfl (qAssign rfl) (fun _ s => s) (dEnd (tQ rfl (qAssign rfl) (tEnd (xThen (cSeq (cReg (tQ rfl (qMove rfl) (tQ rfl (qNot rfl) (tEnd (xThen ?_)))))))))))))
              refine cIf rfl (fun c106 => ?_) (fun c106 => ?_)
              · refine cExit (xExitThen (xExitOther rfl (xExitThen (xExitBlock ?_))))
                refine xRound _ (BSt.mk F1 (mark ws1 (pkey D f (rankOf (mkOf p.insts) 65) (mkOf p.insts) (a, bd', lv))) (V.add (a, bd', lv)) stk' A cap best Ab cb) ?_ (by dsimp only; simp only [List.length_append, List.length_singleton]; omega) (le_of ⟨rfl, rfl, rfl, (by first | rfl | simp [look]), trivial⟩) (fun _ s => s.less (.cons _ (.cons_cons _ (.cons _ (.cons_cons _ (.cons_cons _ (.refl _)))))))
                have hstep : (machOf p s).step ⟨a, bd', lv, sl⟩ = .die := by
                  simp at c106
                  simp [Mach.step, machOf, hop, c106, Nat.ne_of_lt hbu]
                exact hB0.next (Sub.refl _) hkey hcap hkm hVf (fun y hy => hstk y (by simp [hy])) (fin_die hkm hVf hstep) (by omega)
              · refine cSkip (xThen (cSeq (cReg (tQ rfl (qFieldAddr Tryd.runUnderlying167 rfl Tryd.sizeOf3 rfl rfl rfl) (tQ rfl (qLd1M 2 Tryd.isAgg3 rfl rfl rfl) (tQ rfl (qAdd rfl rfl (w64 (by omega) (by omega))) (tQ rfl (qFieldAddr Tryd.runUnderlying167 rfl Tryd.sizeOf3 rfl rfl rfl) (tStore1 2 Tryd.sizeOf3 rfl rfl rfl rfl (by simp) (tEnd (xThen (cReg (tQ rfl (qFieldAddr Tryd.runUnderlying167 rfl Tryd.sizeOf3 rfl rfl rfl) (tStore1 2 Tryd.sizeOf3 rfl rfl rfl rfl (by simp) (tEnd (xBlock ?_)))))))))))))))
                refine xMeet _ (F1, ⟨xx, bd' + 1, 64, sl⟩, .slice Av (2 * p.names.length + 2) cv, stk', A, cap) ?_ (le_of ⟨rfl, rfl, rfl, (by first | rfl | simp [look]), rfl, trivial⟩) (fun _ s => s.less (.cons _ (.cons_cons _ (.cons_cons _ (.cons_cons _ (.cons_cons _ (.refl _)))))))
                have hstep : (machOf p s).step ⟨a, bd', lv, sl⟩ = .go ⟨xx, bd' + 1, 64, sl⟩ := by
                  simp at c106
                  simp [Mach.step, machOf, hop, hxx, c106, Nat.ne_of_lt hbu]
                exact ⟨Sub.refl _, ⟨⟨hX (by omega) (by omega), by show f ≤ bd' + 1; omega, by show bd' + 1 < f + D; omega, Nat.le_refl _, mk_64 _⟩, hsll, ⟨_, _, rfl, hsr⟩⟩, fun y hy => hstk y (by simp [hy]), fin_go hkm hVf hstep, by first | omega | (dsimp only; omega)⟩
          · refine cSeq (cReg (tQ rfl (qEq rfl rfl) (tQ rfl (qAssign rfl) (tEnd (xThen ?_)))))
            refine cIf rfl (fun c112 => ?_) (fun c112 => ?_)
            · refine cSeq ?_
              have hop : (gI p.insts a).op = 2 := by simpa using c112
              refine cReg (tQ rfl (qLdNM 2 Tryd.isAgg167 Tryd.sizeOf167 rfl rfl rfl rfl) (tAlloc rfl Tryd.zeroValue167 rfl (cs := [_, _, _, _]) fun b15 => (tStoreN 0 Tryd.sizeOf167 rfl rfl rfl (by simp [Value.oneCell']) rfl (by simp) (tEnd (xThen (cSeq (cReg (tQ rfl (qFieldAddr Tryd.runUnderlying44 rfl Tryd.sizeOf3 rfl rfl rfl) (tQ rfl (qLd1M 1 Tryd.isAgg3 rfl rfl rfl) (tQ rfl (qFieldAddr Tryd.runUnderlying167 rfl Tryd.sizeOf3 rfl rfl rfl) (tStore1 0 Tryd.sizeOf3 rfl rfl rfl rfl (by simp) (tEnd (xThen (cReg (tQ rfl (qMove rfl) (tQ rfl (qLdNM 0 Tryd.isAgg167 Tryd.sizeOf167 rfl rfl rfl rfl) ?_))))))))))))))))
              refine tBuildSlice rfl Tryd.runUnderlying168 Tryd.sizeOf167 Tryd.zeroValue167 rfl rfl rfl rfl (cs := [_, _, _, _]) fun b120 => (tAppend (bytes := 48) 5 rfl Tryd.runUnderlying168 Tryd.sizeOf167 Tryd.typeInfo167 rfl Tryd.zeroValue167 rfl Tryd.runUnderlying168 rfl rfl rfl rfl rfl (fun e => by cases e) (flat_len _) rfl (by simp [Value.oneCell']) (fun w' s' => reads_blk 0 rfl rfl s') (by omega) fun A121 c121 h121 => ?_)
              obtain ⟨A2, rfl⟩ : ∃ b, A121 = some b := by
                cases A121 with
                | none => have := (h121 rfl).2; omega
                | some b => exact ⟨b, rfl⟩
              refine tQ rfl (qAssign rfl) (tEnd (xBlock ?_))
              refine xMeet _ (F1, ⟨xx, bd', lv, sl⟩, .slice Av (2 * p.names.length + 2) cv, stk' ++ [(⟨yy, bd', lv, sl⟩, .slice Av (2 * p.names.length + 2) cv)], A2, c121) ?_ (le_of ⟨rfl, rfl, rfl, (by first | rfl | simp [look]), rfl, trivial⟩) (fun _ s => by simp only [flat_snoc]; exact s.less (.cons _ (.cons _ (.cons _ (.refl _)))))
              have hstep : (machOf p s).step ⟨a, bd', lv, sl⟩ = .fork ⟨xx, bd', lv, sl⟩ ⟨yy, bd', lv, sl⟩ := by
                simp [Mach.step, machOf, hop, hxx, hyy]
              exact ⟨Sub.refl _, ⟨⟨hX (by omega) (by omega), hblo, hbhi, hlv, hkey.mkd⟩, hsll, ⟨_, _, rfl, hsr⟩⟩, fun y hy => by
                rcases List.mem_append.1 hy with h | h
                · exact hstk y (by simp [h])
                · obtain rfl := List.mem_singleton.1 h; exact ⟨⟨hY hop, hblo, hbhi, hlv, hkey.mkd⟩, hsll, ⟨_, _, rfl, hsr⟩⟩, by rw [thrs_snoc]; exact fin_fork hkm hVf hstep, by simp⟩
            · refine cSeq (cReg (tQ rfl (qEq rfl rfl) (tQ rfl (qAssign rfl) (tEnd (xThen ?_)))))
              refine cIf rfl (fun c122 => ?_) (fun c122 => ?_)
              · have hop : (gI p.insts a).op = 3 := by simpa using c122
                refine cDrawM 14 [(0, true), (1, true), (2, true), (3, true), (4, true), (5, true), (6, true), (7, true), (8, true), (9, true), (10, true), (11, true), (12, false), (13, true)] Tryd.mixed (by kernel_rfl) (fun _ _ _ _ _ h => h) (dQ rfl rfl (qFieldAddr Tryd.runUnderlying167 rfl Tryd.sizeOf24 rfl rfl rfl) (fun _ s => s) (dQ rfl rfl (qLd1M 2 Tryd.isAgg24 rfl rfl rfl) (fun _ s => s) (dQ rfl rfl (qFieldAddr Tryd.runUnderlying44 rfl Tryd.sizeOf3 rfl rfl rfl) (fun _ s => s) (dQ rfl rfl (qLd1M 0 Tryd.isAgg3 rfl rfl rfl) (fun _ s => s) (dQ rfl rfl (qMove rfl) (fun _ s => s) (dQ rfl rfl (qNil rfl) (fun _ s => s) (dQ rfl rfl (qFieldAddr Tryd.runUnderlying92 rfl Tryd.sizeOf24 rfl rfl rfl) (fun _ s => s) (dQ rfl rfl (qLd1 Tryd.isAgg24 rfl (at1_mono hsub hP1)) (fun _ s => s) (dQ rfl rfl (qFieldAddr Tryd.runUnderlying167 rfl Tryd.sizeOf3 rfl rfl rfl) (fun _ s => s) (dQ rfl rfl (qLd1M 2 Tryd.isAgg3 rfl rfl rfl) (fun _ s => s) (dQ rfl rfl (qIdxAddr Tryd.runUnderlying24 Tryd.sizeOf3 rfl rfl rfl (by omega)) (fun _ s => s) ?_)))))))))))
                refine dQ rfl rfl (qLd1 Tryd.isAgg3 rfl hPq) (fun _ s => s) (dCallO rfl rfl Tryd.call102 (first := []) (captured := []) rfl rfl (Φ := fun v C => ∃ b cap, v = rowV (some b) (2 * p.names.length + 2) cap ∧ C = [row (some b) cap 3 1 ((sl.set nn (q : Int)).map (.int .i64 ·))]) (fun w' s' => with_ (F := F1) (k := nn) s'.sub hsr (by omega) (hSv hop).2) (fun v C hΦ w s => by obtain ⟨b, c, rfl, rfl⟩ := hΦ; exact s.less (.cons _ (.refl _))) fun v C hΦ => ?_)
                obtain ⟨b136, c136, rfl, rfl⟩ := hΦ
                refine dQ rfl rfl (qFieldAddr Tryd.runUnderlying167 rfl Tryd.sizeOf24 rfl rfl rfl) (fun _ s => s.less (.cons _ (.refl _))) (dEnd (tStore1 3 Tryd.sizeOf24 rfl rfl rfl rfl (by simp) (tEnd (xBlock (xFreeze 0 rfl fun FW hSW hAW hNW => ?_)))))
                refine xMeet _ (FW, ⟨xx, bd', lv, sl.set nn q⟩, rowV (some b136) (2 * p.names.length + 2) c136, stk', A, cap) ?_ (le_of ⟨rfl, rfl, rfl, (by first | rfl | simp [look]), rfl, trivial⟩) (fun _ s => s.less (.cons _ (.cons_cons _ (.cons_cons _ (.cons_cons _ (.cons_cons _ (.refl _)))))))
                have hstep : (machOf p s).step ⟨a, bd', lv, sl⟩ = .go ⟨xx, bd', lv, sl.set nn q⟩ := by
                  simp [Mach.step, machOf, hop, hxx, hnn, hq]
                exact ⟨hSW, ⟨⟨hX (by omega) (by omega), hblo, hbhi, hlv, hkey.mkd⟩, by simp [hsll], ⟨_, _, rfl, rdI_row (cap := c136) (e := 3) hAW (by simp [hsll]) (fun e => by cases e)⟩⟩, fun y hy => (hstk y (by simp [hy])).mono hSW, fin_go hkm hVf hstep, by first | omega | (dsimp only; omega)⟩
              · refine cSeq (cReg (tQ rfl (qEq rfl rfl) (tQ rfl (qAssign rfl) (tEnd (xThen ?_)))))
                refine cIf rfl (fun c138 => ?_) (fun c138 => ?_)
                · refine cSeq ?_
                  have hop : (gI p.insts a).op = 4 := by simpa using c138
                  refine cDrawM 24 [(0, true), (1, true), (2, true), (3, true), (4, true), (5, true), (6, true), (7, true), (8, true), (9, true), (10, true), (11, true), (12, true), (13, true), (14, true), (15, true), (16, true), (17, true), (18, true), (19, false), (20, true), (21, true), (22, true), (23, true)] Tryd.mixed (by kernel_rfl) (fun _ _ _ _ _ h => h) (dQ rfl rfl (qFieldAddr Tryd.runUnderlying44 rfl Tryd.sizeOf3 rfl rfl rfl) (fun _ s => s) (dQ rfl rfl (qLd1M 0 Tryd.isAgg3 rfl rfl rfl) (fun _ s => s) (dQ rfl rfl (qMove rfl) (fun _ s => s) (dQ rfl rfl (qNil rfl) (fun _ s => s) (dQ rfl rfl (qFieldAddr Tryd.runUnderlying92 rfl Tryd.sizeOf9 rfl rfl rfl) (fun _ s => s) (dQ rfl rfl (qLd1 Tryd.isAgg9 rfl he1.text) (fun _ s => s) (dQ rfl rfl (qMove rfl) (fun _ s => s) (dQ rfl rfl (qNil rfl) (fun _ s => s) (dQ rfl rfl (qFieldAddr Tryd.runUnderlying92 rfl Tryd.sizeOf24 rfl rfl rfl) (fun _ s => s) (dQ rfl rfl (qLd1 Tryd.isAgg24 rfl (at1_mono hsub hP1)) (fun _ s => s) (dQ rfl rfl (qFieldAddr Tryd.runUnderlying167 rfl Tryd.sizeOf3 rfl rfl rfl) (fun _ s => s) ?_)))))))))))
                  refine dQ rfl rfl (qLd1M 2 Tryd.isAgg3 rfl rfl rfl) (fun _ s => s) (dQ rfl rfl (qIdxAddr Tryd.runUnderlying24 Tryd.sizeOf3 rfl rfl rfl (by omega)) (fun _ s => s) (dQ rfl rfl (qLd1 Tryd.isAgg3 rfl hPq) (fun _ s => s) (dQ rfl rfl (qMove rfl) (fun _ s => s) (dQ rfl rfl (qNil rfl) (fun _ s => s) (dQ rfl rfl (qFieldAddr Tryd.runUnderlying92 rfl Tryd.sizeOf31 rfl rfl rfl) (fun _ s => s) (dQ rfl rfl (qFieldAddr Tryd.runUnderlying31 rfl Tryd.sizeOf4 rfl rfl rfl) (fun _ s => s) (dQ rfl rfl (qLd1 Tryd.isAgg4 rfl he1.raw) (fun _ s => s) (dCallQ rfl rfl Tryd.call105 (first := []) (captured := []) rfl rfl (fun w' s' => lookR s'.sub hT1 hqs (by omega) ⟨by have := (hLk hop).1; omega, by have := (hLk hop).2.1; omega⟩ (fun e => by have := (hLk hop).2.2 e; omega) hqb) (fun _ s => s) (dQ rfl rfl (qMove rfl) (fun _ s => s) (dQ rfl rfl (qExtract rfl rfl) (fun _ s => s) (dQ rfl rfl (qExtract rfl rfl) (fun _ s => s) ?_)))))))))))
                  refine dQ rfl rfl (qAssign rfl) (fun _ s => s) (dEnd (tQ rfl (qAssign rfl) (tEnd (xThen (cSeq (cReg (tQ rfl (qMove rfl) (tQ rfl (qNot rfl) (tEnd (xThen ?_))))))))))
                  refine cIf rfl (fun c164 => ?_) (fun c164 => ?_)
                  · refine cExit (xExitOther rfl (xExitThen (xExitBlock ?_)))
                    refine xRound _ (BSt.mk F1 (mark ws1 (pkey D f (rankOf (mkOf p.insts) 65) (mkOf p.insts) (a, bd', lv))) (V.add (a, bd', lv)) stk' A cap best Ab cb) ?_ (by dsimp only; simp only [List.length_append, List.length_singleton]; omega) (le_of ⟨rfl, rfl, rfl, (by first | rfl | simp [look]), trivial⟩) (fun _ s => s.less (.cons _ (.cons_cons _ (.cons _ (.cons_cons _ (.cons_cons _ (.refl _)))))))
                    have hstep : (machOf p s).step ⟨a, bd', lv, sl⟩ = .die := by
                      simp at c164
                      simp [Mach.step, machOf, hop, hnn, hq, c164]
                    exact hB0.next (Sub.refl _) hkey hcap hkm hVf (fun y hy => hstk y (by simp [hy])) (fin_die hkm hVf hstep) (by omega)
                  · refine cSkip (xBlock ?_)
                    refine xMeet _ (F1, ⟨xx, bd', lv, sl⟩, .slice Av (2 * p.names.length + 2) cv, stk', A, cap) ?_ (le_of ⟨rfl, rfl, rfl, (by first | rfl | simp [look]), rfl, trivial⟩) (fun _ s => s.less (.cons _ (.cons_cons _ (.cons_cons _ (.cons_cons _ (.cons_cons _ (.refl _)))))))
                    have hstep : (machOf p s).step ⟨a, bd', lv, sl⟩ = .go ⟨xx, bd', lv, sl⟩ := by
                      simp at c164
                      simp [Mach.step, machOf, hop, hxx, hnn, hq, c164]
                    exact ⟨Sub.refl _, ⟨⟨hX (by omega) (by omega), hblo, hbhi, hlv, hkey.mkd⟩, hsll, ⟨_, _, rfl, hsr⟩⟩, fun y hy => hstk y (by simp [hy]), fin_go hkm hVf hstep, by first | omega | (dsimp only; omega)⟩
                · refine cSeq (cReg (tQ rfl (qEq rfl rfl) (tQ rfl (qAssign rfl) (tEnd (xThen ?_)))))
                  refine cIf rfl (fun c165 => ?_) (fun c165 => ?_)
                  · have hop : (gI p.insts a).op = 5 := by simpa using c165
                    refine cReg (tQ rfl (qFieldAddr Tryd.runUnderlying167 rfl Tryd.sizeOf3 rfl rfl rfl) (tQ rfl (qLd1M 2 Tryd.isAgg3 rfl rfl rfl) (tQ rfl (qFieldAddr Tryd.runUnderlying44 rfl Tryd.sizeOf3 rfl rfl rfl) (tQ rfl (qLd1M 0 Tryd.isAgg3 rfl rfl rfl) (tQ rfl (qMinC rfl rfl (c := ((min lv nn : Nat) : Int)) (by omega)) (tQ rfl (qFieldAddr Tryd.runUnderlying167 rfl Tryd.sizeOf3 rfl rfl rfl) (tStore1 2 Tryd.sizeOf3 rfl rfl rfl rfl (by simp) (tEnd (xBlock ?_)))))))))
                    refine xMeet _ (F1, ⟨xx, bd', min lv nn, sl⟩, .slice Av (2 * p.names.length + 2) cv, stk', A, cap) ?_ (le_of ⟨rfl, rfl, rfl, (by first | rfl | simp [look]), rfl, trivial⟩) (fun _ s => s.less (.cons _ (.cons_cons _ (.cons_cons _ (.cons_cons _ (.cons_cons _ (.refl _)))))))
                    have hstep : (machOf p s).step ⟨a, bd', lv, sl⟩ = .go ⟨xx, bd', min lv nn, sl⟩ := by
                      simp [Mach.step, machOf, hop, hxx, hnn, hq]
                    exact ⟨Sub.refl _, ⟨⟨hX (by omega) (by omega), hblo, hbhi, by show min lv nn ≤ 64; omega, by
                      show mkOf p.insts (min lv nn) = true
                      rcases Nat.le_total lv nn with h | h
                      · rw [Nat.min_eq_left h]; exact hkey.mkd
                      · rw [Nat.min_eq_right h]; exact mk_of ha hop hnn⟩, hsll, ⟨_, _, rfl, hsr⟩⟩, fun y hy => hstk y (by simp [hy]), fin_go hkm hVf hstep, by first | omega | (dsimp only; omega)⟩
                  · refine cSeq (cReg (tQ rfl (qEq rfl rfl) (tQ rfl (qAssign rfl) (tEnd (xThen ?_)))))
                    refine cIf rfl (fun c173 => ?_) (fun c173 => ?_)
                    · refine cSeq ?_
                      have hop : (gI p.insts a).op = 6 := by simpa using c173
                      refine cReg (tQ rfl (qFieldAddr Tryd.runUnderlying167 rfl Tryd.sizeOf3 rfl rfl rfl) (tQ rfl (qLd1M 2 Tryd.isAgg3 rfl rfl rfl) (tQ rfl (qFieldAddr Tryd.runUnderlying44 rfl Tryd.sizeOf3 rfl rfl rfl) (tQ rfl (qLd1M 0 Tryd.isAgg3 rfl rfl rfl) (tQ rfl (qLe rfl rfl) (tEnd (xThen ?_)))))))
                      refine cIf rfl (fun c179 => ?_) (fun c179 => ?_)
                      · refine cExit (xExitOther rfl (xExitThen (xExitBlock ?_)))
                        refine xRound _ (BSt.mk F1 (mark ws1 (pkey D f (rankOf (mkOf p.insts) 65) (mkOf p.insts) (a, bd', lv))) (V.add (a, bd', lv)) stk' A cap best Ab cb) ?_ (by dsimp only; simp only [List.length_append, List.length_singleton]; omega) (le_of ⟨rfl, rfl, rfl, (by first | rfl | simp [look]), trivial⟩) (fun _ s => s.less (.cons _ (.cons_cons _ (.cons _ (.cons_cons _ (.cons_cons _ (.refl _)))))))
                        have hstep : (machOf p s).step ⟨a, bd', lv, sl⟩ = .die := by
                          simp at c179
                          simp [Mach.step, machOf, hop, hnn]
                          omega
                        exact hB0.next (Sub.refl _) hkey hcap hkm hVf (fun y hy => hstk y (by simp [hy])) (fin_die hkm hVf hstep) (by omega)
                      · refine cSkip (xBlock ?_)
                        refine xMeet _ (F1, ⟨xx, bd', lv, sl⟩, .slice Av (2 * p.names.length + 2) cv, stk', A, cap) ?_ (le_of ⟨rfl, rfl, rfl, (by first | rfl | simp [look]), rfl, trivial⟩) (fun _ s => s.less (.cons _ (.cons_cons _ (.cons_cons _ (.cons_cons _ (.cons_cons _ (.refl _)))))))
                        have hstep : (machOf p s).step ⟨a, bd', lv, sl⟩ = .go ⟨xx, bd', lv, sl⟩ := by
                          simp at c179
                          simp [Mach.step, machOf, hop, hxx, hnn]
                          omega
                        exact ⟨Sub.refl _, ⟨⟨hX (by omega) (by omega), hblo, hbhi, hlv, hkey.mkd⟩, hsll, ⟨_, _, rfl, hsr⟩⟩, fun y hy => hstk y (by simp [hy]), fin_go hkm hVf hstep, by first | omega | (dsimp only; omega)⟩
                    · refine cSeq (cReg (tQ rfl (qEq rfl rfl) (tQ rfl (qAssign rfl) (tEnd (xThen ?_)))))
                      refine cIf rfl (fun c180 => ?_) (fun c180 => ?_)
                      · refine cExit (xExitOther rfl (xExitThen (xExitBlock ?_)))
                        refine xRound _ (BSt.mk F1 (mark ws1 (pkey D f (rankOf (mkOf p.insts) 65) (mkOf p.insts) (a, bd', lv))) (V.add (a, bd', lv)) stk' A cap best Ab cb) ?_ (by dsimp only; simp only [List.length_append, List.length_singleton]; omega) (le_of ⟨rfl, rfl, rfl, (by first | rfl | simp [look]), trivial⟩) (fun _ s => s.less (.cons _ (.cons_cons _ (.cons _ (.cons_cons _ (.cons_cons _ (.refl _)))))))
                        have hstep : (machOf p s).step ⟨a, bd', lv, sl⟩ = .die := by
                          have hop : (gI p.insts a).op = 8 := by simpa using c180
                          simp [Mach.step, machOf, hop]
                        exact hB0.next (Sub.refl _) hkey hcap hkm hVf (fun y hy => hstk y (by simp [hy])) (fin_die hkm hVf hstep) (by omega)
                      · refine cSeq (cReg (tQ rfl (qEq rfl rfl) (tQ rfl (qAssign rfl) (tEnd (xThen ?_)))))
                        refine cIf rfl (fun c182 => ?_) (fun c182 => ?_)
                        · refine cSeq ?_
                          have hop : (gI p.insts a).op = 7 := by simpa using c182
                          have hhit : (machOf p s).step ⟨a, bd', lv, sl⟩ = .hit (sl.set 1 (q : Int)) := by simp [Mach.step, machOf, hop, hq]
                          refine cDrawM 8 [(0, true), (1, true), (2, true), (3, true), (4, true), (5, true), (6, true), (7, true)] Tryd.mixed (by kernel_rfl) (fun _ _ _ _ _ h => h) (dQ rfl rfl (qMove rfl) (fun _ s => s) (dQ rfl rfl (qNil rfl) (fun _ s => s) (dQ rfl rfl (qFieldAddr Tryd.runUnderlying92 rfl Tryd.sizeOf24 rfl rfl rfl) (fun _ s => s) (dQ rfl rfl (qLd1 Tryd.isAgg24 rfl (at1_mono hsub hP1)) (fun _ s => s) (dQ rfl rfl (qFieldAddr Tryd.runUnderlying167 rfl Tryd.sizeOf3 rfl rfl rfl) (fun _ s => s) (dQ rfl rfl (qLd1M 2 Tryd.isAgg3 rfl rfl rfl) (fun _ s => s) (dQ rfl rfl (qIdxAddr Tryd.runUnderlying24 Tryd.sizeOf3 rfl rfl rfl (by omega)) (fun _ s => s) (dQ rfl rfl (qLd1 Tryd.isAgg3 rfl hPq) (fun _ s => s) (dEnd (tQ rfl (qAssign rfl) (tEnd (xThen ?_))))))))))))
                          refine cCut (⟨fun (⟨best2, Ab2, cb2⟩ : Option (List Int) × Option Nat × Nat) => [(0, .pointer (some ⟨be, 0, none⟩)), (2, .bool longest), (7, rowV Ab2 (best2.getD []).length cb2), (10, rowV (some A) stk'.length cap)], fun (⟨best2, Ab2, cb2⟩ : Option (List Int) × Option Nat × Nat) => F1, fun (⟨best2, Ab2, cb2⟩ : Option (List Int) × Option Nat × Nat) => blk bb (u64c (mark ws1 (pkey D f (rankOf (mkOf p.insts) 65) (mkOf p.insts) (a, bd', lv)))) 207 :: row (some A) cap 167 4 (stk'.flatMap tc) :: row Ab2 cb2 3 1 ((best2.getD []).map (.int .i64 ·)) :: M, fun (⟨best2, Ab2, cb2⟩ : Option (List Int) × Option Nat × Nat) => best2 = upd best (sl.set 1 q) ∧ ∀ b, best2 = some b → b.length = 2 * p.names.length + 2 ∧ Ab2 ≠ none, fun (⟨best2, Ab2, cb2⟩ : Option (List Int) × Option Nat × Nat) => 0⟩ : LI (Option (List Int) × Option Nat × Nat)) ?_ ?_
                          · refine cSeq (cReg (tQ rfl (qMove rfl) (tQ rfl (qSliceEqNil Tryd.runUnderlying24 rfl rfl) (tQ rfl (qMove rfl) ?_))))
                            refine tCase 194 rfl (fun g194 => ?_) (fun g194 => ?_)
                            · refine tNo rfl rfl rfl rfl (tNo rfl rfl rfl rfl (tNo rfl rfl rfl rfl (tNo rfl rfl rfl rfl (tNo rfl rfl rfl rfl (tQ rfl (qPickT rfl rfl) (tEnd (xThen (cIfT rfl (cReg (tQ rfl (qFieldAddr Tryd.runUnderlying167 rfl Tryd.sizeOf24 rfl rfl rfl) (tQ rfl (qLd1M 2 Tryd.isAgg24 rfl rfl rfl) (tQ rfl (qMove rfl) ?_))))))))))))
                              refine tCallO rfl Tryd.call102 (first := []) (captured := []) rfl rfl (Φ := fun v C => ∃ b cap, v = rowV (some b) (2 * p.names.length + 2) cap ∧ C = [row (some b) cap 3 1 ((sl.set 1 (q : Int)).map (.int .i64 ·))]) (fun w' s' => with_ (F := F1) (k := 1) s'.sub hsr (by omega) (by omega)) fun v C hΦ => ?_
                              obtain ⟨b204, c204, rfl, rfl⟩ := hΦ
                              refine tQ rfl (qAssign rfl) (tEnd ?_)
                              refine xMeet _ (some (sl.set 1 (q : Int)), some b204, c204) ?_ (le_of ⟨rfl, rfl, (by first | rfl | simp [look, hsll]), rfl, trivial⟩) (fun _ s => (s.less (.cons_cons _ (.cons _ (.cons_cons _ (.cons _ (.cons_cons _ (.cons _ (.refl _)))))))).perm (List.perm_middle (l₁ := [_, _])).symm)
                              refine ⟨?_, fun b e => by cases e; exact ⟨by simp [hsll], by simp⟩⟩
                              first
                                | (have hbn : best = none := by
                                     cases best with
                                     | none => rfl
                                     | some b => exact absurd (by simpa using g194) (hbst.2 b rfl).2
                                   subst hbn; rfl)
                                | (simp only [upd]
                                   rw [if_pos (by rw [gZ_set (by omega)]; simp only [decide_eq_true_eq] at c200; omega)])
                            · obtain ⟨ba, rfl⟩ : ∃ b, Ab = some b := by
                                cases Ab with
                                | none => simp at g194
                                | some b => exact ⟨b, rfl⟩
                              obtain ⟨bl, rfl⟩ : ∃ b, best = some b := by
                                cases best with
                                | none => have := (hbst.1 rfl).1; cases this
                                | some b => exact ⟨b, rfl⟩
                              have hbl := (hbst.2 _ rfl).1
                              simp only [Option.getD_some]
                              refine tGo rfl rfl (tQ rfl (qMove rfl) (tGo rfl rfl (tQ rfl (qMove rfl) (tGo rfl rfl (tQ rfl (qIdxAddr Tryd.runUnderlying24 Tryd.sizeOf3 rfl rfl (show _ = ((1 : Nat) : Int) from rfl) (by omega)) (tGo rfl rfl (tQ rfl (qLd1Row 4 Tryd.isAgg3 rfl rfl (map_at (by omega))) (tGo rfl rfl (tQ rfl (qGt rfl rfl) (tQ rfl (qPickF rfl rfl) (tEnd (xThen ?_))))))))))))
                              refine cIf rfl (fun c200 => ?_) (fun c200 => ?_)
                              · refine cReg (tQ rfl (qFieldAddr Tryd.runUnderlying167 rfl Tryd.sizeOf24 rfl rfl rfl) (tQ rfl (qLd1M 2 Tryd.isAgg24 rfl rfl rfl) (tQ rfl (qMove rfl) (tCallO rfl Tryd.call102 (first := []) (captured := []) rfl rfl (Φ := fun v C => ∃ b cap, v = rowV (some b) (2 * p.names.length + 2) cap ∧ C = [row (some b) cap 3 1 ((sl.set 1 (q : Int)).map (.int .i64 ·))]) (fun w' s' => with_ (F := F1) (k := 1) s'.sub hsr (by omega) (by omega)) fun v C hΦ => ?_))))
                                obtain ⟨b204, c204, rfl, rfl⟩ := hΦ
                                refine tQ rfl (qAssign rfl) (tEnd ?_)
                                refine xMeet _ (some (sl.set 1 (q : Int)), some b204, c204) ?_ (le_of ⟨rfl, rfl, (by first | rfl | simp [look, hsll]), rfl, trivial⟩) (fun _ s => (s.less (.cons_cons _ (.cons _ (.cons_cons _ (.cons _ (.cons_cons _ (.cons _ (.refl _)))))))).perm (List.perm_middle (l₁ := [_, _])).symm)
                                refine ⟨?_, fun b e => by cases e; exact ⟨by simp [hsll], by simp⟩⟩
                                first
                                  | (have hbn : best = none := by
                                       cases best with
                                       | none => rfl
                                       | some b => exact absurd (by simpa using g194) (hbst.2 b rfl).2
                                     subst hbn; rfl)
                                  | (simp only [upd]
                                     rw [if_pos (by rw [gZ_set (by omega)]; simp only [decide_eq_true_eq] at c200; omega)])
                              · refine cSkip ?_
                                refine xMeet _ (some bl, some ba, cb) ?_ (le_of ⟨rfl, rfl, (by first | rfl | simp [look, hsll]), rfl, trivial⟩) (fun _ s => s.less (.cons _ (.cons_cons _ (.cons _ (.cons_cons _ (.cons_cons _ (.refl _)))))))
                                refine ⟨?_, fun b e => by cases e; exact ⟨hbl, by simp⟩⟩
                                simp only [upd]
                                rw [if_neg (by rw [gZ_set (by omega)]; simp only [decide_eq_false_iff_not] at c200; omega)]
                          · rintro ⟨best2, Ab2, cb2⟩ ⟨hb2, hb3⟩
                            refine cSeq (cSeq (cReg (tQ rfl (qMove rfl) (tQ rfl (qNot rfl) (tEnd (xThen ?_))))))
                            refine cIf rfl (fun c206 => ?_) (fun c206 => ?_)
                            · refine cExit (xExitThen (xExitOther rfl (xExitThen (xExitOther rfl (xExitThen (xExitBlock (xThen (cSeq (cReg (tQ rfl (qMove rfl) (tQ rfl (qAssign rfl) (tEnd (xThen (cRet (xRetScope ?_)))))))))))))))
                              first
                                | (have hst0 : stk = [] := by simpa using c51
                                   subst hst0
                                   refine xRet1 _ Tryd.results49 rfl fun w' s' => ⟨F1, _, end_ok hB0, ?_⟩
                                   exact (s'.less (.cons_cons _ (.cons _ (.refl _)))).perm (List.Perm.swap _ _ _))
                                | (have hlg : longest = false := by simpa using c206
                                   subst hlg
                                   refine xRet1 _ Tryd.results49 rfl fun w' s' => ⟨F1, _, break_ok (k := (pkey D f (rankOf (mkOf p.insts) 65) (mkOf p.insts) (a, bd', lv))) hB0 hkm hVf hhit hb2 hb3, ?_⟩
                                   exact (s'.less (.cons_cons _ (.cons _ (.refl _)))).perm (List.Perm.swap _ _ _))
                            · refine cSkip (xThen (cExit (xExitOther rfl (xExitThen (xExitBlock ?_)))))
                              refine xRound _ (BSt.mk F1 (mark ws1 (pkey D f (rankOf (mkOf p.insts) 65) (mkOf p.insts) (a, bd', lv))) (V.add (a, bd', lv)) stk' A cap best2 Ab2 cb2) ?_ (by dsimp only; simp only [List.length_append, List.length_singleton]; omega) (le_of ⟨rfl, rfl, rfl, (by first | rfl | simp [look]), trivial⟩) (fun _ s => s)
                              have hlg : longest = true := by simpa using c206
                              subst hb2
                              exact hB0.hit hkey hcap hkm hVf hhit hlg hb3
                        · refine cSkip (xBlock ?_)
                          refine xMeet _ (F1, ⟨xx, bd', lv, sl⟩, .slice Av (2 * p.names.length + 2) cv, stk', A, cap) ?_ (le_of ⟨rfl, rfl, rfl, (by first | rfl | simp [look]), rfl, trivial⟩) (fun _ s => s.less (.cons _ (.cons_cons _ (.cons_cons _ (.cons_cons _ (.cons_cons _ (.refl _)))))))
                          have hstep : (machOf p s).step ⟨a, bd', lv, sl⟩ = .go ⟨xx, bd', lv, sl⟩ := by
                            have hop : (gI p.insts a).op = 9 := by simp at c81 c112 c122 c138 c165 c173 c180 c182; omega
                            simp [Mach.step, machOf, hop, hxx]
                          exact ⟨Sub.refl _, ⟨⟨hX (by simp at c182; omega) (by simp at c180; omega), hblo, hbhi, hlv, hkey.mkd⟩, hsll, ⟨_, _, rfl, hsr⟩⟩, fun y hy => hstk y (by simp [hy]), fin_go hkm hVf hstep, by first | omega | (dsimp only; omega)⟩
        · rintro ⟨F2, t2, v2, stk2, A2, cap2⟩ ⟨hs2, ht2, hstk2, hfin2, hlen2⟩
          obtain ⟨hk2, hsl2, Av2, cv2, hv2, hsr2⟩ := ht2
          dsimp only at hv2 hsl2 hsr2
          subst hv2
          refine cReg (tQ rfl (qMove rfl) (tQ rfl (qLdNM 1 Tryd.isAgg167 Tryd.sizeOf167 rfl rfl rfl rfl) (tBuildSlice rfl Tryd.runUnderlying168 Tryd.sizeOf167 Tryd.zeroValue167 rfl rfl rfl rfl (cs := [_, _, _, _]) fun b209 => (tAppend (bytes := 48) 3 rfl Tryd.runUnderlying168 Tryd.sizeOf167 Tryd.typeInfo167 rfl Tryd.zeroValue167 rfl Tryd.runUnderlying168 rfl rfl rfl rfl rfl (fun e => by cases e) (flat_len _) rfl (by simp [Value.oneCell', tc]) (fun w' s' => reads_blk 0 rfl rfl s') (by omega) fun A210 c210 h210 => ?_))))
          obtain ⟨A3, rfl⟩ : ∃ b, A210 = some b := by
            cases A210 with
            | none => have := (h210 rfl).2; omega
            | some b => exact ⟨b, rfl⟩
          refine tQ rfl (qAssign rfl) (tEnd (xBlock ?_))
          refine xRound _ (BSt.mk F2 (mark ws1 (pkey D f (rankOf (mkOf p.insts) 65) (mkOf p.insts) (a, bd', lv))) (V.add (a, bd', lv)) (stk2 ++ [(t2, .slice Av2 (2 * p.names.length + 2) cv2)]) A3 c210 best Ab cb) ?_ (by dsimp only; simp only [List.length_append, List.length_singleton]; omega) (le_of ⟨rfl, rfl, rfl, (by first | rfl | simp [look]), trivial⟩) (fun _ s => by simp only [flat_snoc]; exact s.less (.cons _ (.cons_cons _ (.cons _ (.refl _)))))
          exact hB0.next hs2 hkey hcap hkm hVf (fun y hy => by
            rcases List.mem_append.1 hy with h | h
            · exact hstk2 y h
            · obtain rfl := List.mem_singleton.1 h; exact ⟨hk2, hsl2, _, _, rfl, hsr2⟩) (by rw [thrs_snoc]; exact hfin2) (by simp; omega)
    · refine cExit (xExitThen (xExitThen (xExitBlock (xThen (cSeq (cReg (tQ rfl (qMove rfl) (tQ rfl (qAssign rfl) (tEnd (xThen (cRet (xRetScope ?_))))))))))))
      first
        | (have hst0 : stk = [] := by simpa using c51
           subst hst0
           refine xRet1 _ Tryd.results49 rfl fun w' s' => ⟨F1, _, end_ok hB0, ?_⟩
           exact (s'.less (.cons_cons _ (.cons _ (.refl _)))).perm (List.Perm.swap _ _ _))
        | (have hlg : longest = false := by simpa using c206
           subst hlg
           refine xRet1 _ Tryd.results49 rfl fun w' s' => ⟨F1, _, break_ok (k := (pkey D f (rankOf (mkOf p.insts) 65) (mkOf p.insts) (a, bd', lv))) hB0 hkm hVf hhit hb2 hb3, ?_⟩
           exact (s'.less (.cons_cons _ (.cons _ (.refl _)))).perm (List.Perm.swap _ _ _))

end Go.V
namespace Go.V
open Go.Proofs
set_option linter.unusedVariables false
set_option linter.unusedSimpArgs false

/-- How `open` answers. -/
structure OpenP (p : Prg) (s : ByteArray) (at_ : Int) (F : Hp) (M : List Chunk) (v : Value) (F' : Hp) (M' : List Chunk) : Prop where
  sub : Sub F F'
  form : ¬ checkOk p → v = .tuple #[.pointer none, .int .i64 1] ∧ M' = M
  range : checkOk p → ¬ brdM p.raw s at_ → v = .tuple #[.pointer none, .int .i64 3] ∧ M' = M
  large : checkOk p → brdM p.raw s at_ → 1048576 < p.insts.length * ((mP p.raw s).length - firstOf (mP p.raw s) at_) → v = .tuple #[.pointer none, .int .i64 6] ∧ M' = M
  good : checkOk p → brdM p.raw s at_ → p.insts.length * ((mP p.raw s).length - firstOf (mP p.raw s) at_) ≤ 1048576 → ∃ be bb wl, v = .tuple #[.pointer (some ⟨be, 0, none⟩), .int .i64 0] ∧ Eng F' be bb p s (firstOf (mP p.raw s) at_) wl ∧ p.insts.length * ((mP p.raw s).length - firstOf (mP p.raw s) at_) * rankOf (mkOf p.insts) 65 < 64 * wl ∧ 0 < wl ∧ M' = blk bb (u64c (List.replicate wl 0)) 207 :: M
def mkC (p : Prg) (k : Nat) : List Value := (List.range 65).map fun l : Nat => Value.bool (decide (l = 64) || (p.insts.take k).any fun x => decide (x.op = 5) && decide (x.n = (l : Int)))
theorem mkC_one (p : Prg) (k : Nat) : ∀ v ∈ mkC p k, v.oneCell' = true := by
  intro v hv
  obtain ⟨l, _, rfl⟩ := List.mem_map.1 hv
  rfl
theorem mkC_at {p : Prg} {n l : Nat} (hn : p.insts.length = n) (h : l < 65) : (mkC p n)[l]? = some (.bool (mkOf p.insts l)) := by
  subst hn
  simp [mkC, mkOf, h]
theorem mkC_mark {p : Prg} {i c : Nat} (hi : i < p.insts.length) (h5 : (gI p.insts i).op = 5) (hn : (gI p.insts i).n = (c : Int)) (hc : c < 65) : (mkC p i).set c (.bool true) = mkC p (i + 1) := by
  unfold mkC
  apply List.ext_getElem?
  intro j
  rw [List.getElem?_set]
  by_cases hj : j < 65
  · rw [List.take_add_one, List.getElem?_eq_getElem hi, gI_at hi]
    by_cases e : c = j
    · subst e
      simp [hc, h5, hn]
    · rw [if_neg e]
      have : ¬ ((c : Int) = (j : Int)) := by omega
      simp [hj, h5, hn, this]
  · rw [List.getElem?_eq_none (by simp; omega), List.getElem?_eq_none (by simp; omega)]
    split
    · rw [if_neg (by simp; omega)]
    · rfl
theorem mkC_skip {p : Prg} {i : Nat} (hi : i < p.insts.length) (h5 : (gI p.insts i).op ≠ 5) : mkC p (i + 1) = mkC p i := by
  unfold mkC
  rw [List.take_add_one, List.getElem?_eq_getElem hi, gI_at hi]
  simp [h5]
theorem mkC_zero (p : Prg) : (mkC p 0).length = 65 := by simp [mkC]
set_option maxHeartbeats 4000000 in
theorem open_B {F : Hp} {M : List Chunk} {w0 w : World} {A B : Option Addr} {n m cA cB : Nat} {p : Prg} {s : ByteArray} {at_ : Int} (s0 : WS F M w0 w) (hT : T F) (hg : RdG F A n B m p) (hc : m ≤ cB) (hat : I64 at_) (hsz : s.size ≤ 2000000) :
    Calls Tryd.prog 48 [.agg #[.slice A n cA, .slice B m cB, .bool p.raw], .string s, .int .i64 at_].toArray w (fun e w' => ∃ v, e = .returned v ∧ ∃ F' M', OpenP p s at_ F M v F' M' ∧ WS F' M' w0 w') := by
  obtain ⟨hat1, hat2⟩ := hat
  have hml := mU_len p.raw s
  have hpl := mP_len p.raw s
  refine Calls.mono (enterG (R := fun v w' => ∃ F' M', OpenP p s at_ F M v F' M' ∧ WS F' M' w0 w') 154 Tryd.func48 Tryd.ntmps48 rfl rfl s0 ?_) (fun e w' ⟨v, h1, h2⟩ => ⟨v, h1, h2⟩)
  refine cSeq (cReg (tBox rfl rfl rfl (cs := [_, _, _]) fun b3 => (tQ rfl (qAssign rfl) (tQ rfl (qAssign rfl) (tEnd (xThen (cSeq (cSeq (cReg (tQ rfl (qLdNM 0 Tryd.isAgg31 Tryd.sizeOf31 rfl rfl rfl rfl) (tCallQ rfl Tryd.call77 (first := []) (captured := []) rfl rfl (fun w' s' => checkP s'.sub hT hg hc) (tQ rfl (qAssign rfl) (tEnd (xThen (cSeq (cReg (tQ rfl (qMove rfl) (tQ rfl (qNe rfl rfl) (tEnd (xThen ?_))))))))))))))))))))
  refine cIf rfl (fun c18 => ?_) (fun c18 => ?_)
  · refine cSeq (cReg (tQ rfl (qMove rfl) (tQ rfl (qAssign rfl) (tQ rfl (qAssign rfl) (tEnd (xThen (cRet (xRetThen ?_))))))))
    refine xRet2 _ _ Tryd.results48 rfl rfl fun w' s' => ⟨F, M, ?_, s'.less (.cons _ (.refl _))⟩
    have hnc : ¬ checkOk p := fun h => by rw [checkE_ok h] at c18; simp at c18
    exact ⟨Sub.refl _, fun _ => ⟨by rw [checkE_bad hnc], rfl⟩, fun h => absurd h hnc, fun h => absurd h hnc, fun h => absurd h hnc⟩
  · refine cSkip (xThen ?_)
    refine cCut (⟨fun (u : Unit) => [(1, .string s), (2, .int .i64 at_), (3, .pointer (some ⟨b3, 0, none⟩))], fun (u : Unit) => F, fun (u : Unit) => blk b3 [.slice A n cA, .slice B m cB, .bool p.raw] 31 :: M, fun (u : Unit) => brdM p.raw s at_, fun (u : Unit) => 0⟩ : LI (Unit)) ?_ ?_
    · refine cSeq (cReg (tQ rfl (qMove rfl) (tQ rfl (qLt rfl rfl) (tQ rfl (qMove rfl) ?_))))
      refine tCase 22 rfl (fun g22 => ?_) (fun g22 => ?_)
      · refine tNo rfl rfl rfl rfl (tNo rfl rfl rfl rfl (tNo rfl rfl rfl rfl (tNo rfl rfl rfl rfl (tQ rfl (qPickT rfl rfl) (tQ rfl (qMove rfl) (tNo rfl rfl rfl rfl (tNo rfl rfl rfl rfl (tNo rfl rfl rfl rfl (tNo rfl rfl rfl rfl (tNoU rfl rfl rfl (tNoU rfl rfl rfl ?_)))))))))))
        refine tNoU rfl rfl rfl (tNoU rfl rfl rfl (tNo rfl rfl rfl rfl (tQ rfl (qPickT rfl rfl) (tEnd (xThen (cIfT rfl (cSeq (cReg (tQ rfl (qAssign rfl) (tQ rfl (qAssign rfl) (tEnd (xThen (cRet (xRetThen ?_))))))))))))))
        refine xRet2 _ _ Tryd.results48 rfl rfl fun w' s' => ⟨F, M, ?_, s'.less (.cons _ (.refl _))⟩
        have hck : checkOk p := by
          refine Decidable.byContradiction fun h => ?_
          rw [checkE_bad h] at c18; simp at c18
        have hnb : ¬ brdM p.raw s at_ := by
          unfold brdM
          rintro ⟨h1, h2, h3⟩
          simp_all <;> omega
        exact ⟨Sub.refl _, fun h => absurd hck h, fun _ _ => ⟨rfl, rfl⟩, fun _ h => absurd h hnb, fun _ h => absurd h hnb⟩
      · refine tGo rfl rfl (tQ rfl (qMove rfl) (tGo rfl rfl (tQ rfl (qMove rfl) (tGo rfl rfl (tQ rfl (qLenStr Tryd.runUnderlying9 rfl rfl) (tGo rfl rfl (tQ rfl (qGt rfl rfl) (tQ rfl (qPickF rfl rfl) (tQ rfl (qMove rfl) ?_)))))))))
        refine tCase 28 rfl (fun g28 => ?_) (fun g28 => ?_)
        · refine tNo rfl rfl rfl rfl (tNo rfl rfl rfl rfl (tNo rfl rfl rfl rfl (tNo rfl rfl rfl rfl (tNoU rfl rfl rfl (tNoU rfl rfl rfl (tNoU rfl rfl rfl (tNoU rfl rfl rfl (tNo rfl rfl rfl rfl (tQ rfl (qPickT rfl rfl) (tEnd (xThen (cIfT rfl ?_))))))))))))
          refine cSeq (cReg (tQ rfl (qAssign rfl) (tQ rfl (qAssign rfl) (tEnd (xThen (cRet (xRetThen ?_)))))))
          refine xRet2 _ _ Tryd.results48 rfl rfl fun w' s' => ⟨F, M, ?_, s'.less (.cons _ (.refl _))⟩
          have hck : checkOk p := by
            refine Decidable.byContradiction fun h => ?_
            rw [checkE_bad h] at c18; simp at c18
          have hnb : ¬ brdM p.raw s at_ := by
            unfold brdM
            rintro ⟨h1, h2, h3⟩
            simp_all <;> omega
          exact ⟨Sub.refl _, fun h => absurd hck h, fun _ _ => ⟨rfl, rfl⟩, fun _ h => absurd h hnb, fun _ h => absurd h hnb⟩
        · refine tGo rfl rfl (tQ rfl (qFieldAddr Tryd.runUnderlying31 rfl Tryd.sizeOf4 rfl rfl rfl) (tGo rfl rfl (tQ rfl (qLd1M 0 Tryd.isAgg4 rfl rfl rfl) (tGo rfl rfl (tQ rfl (qNot rfl) (tGo rfl rfl (tQ rfl (qMove rfl) ?_)))))))
          refine tCase 32 rfl (fun g32 => ?_) (fun g32 => ?_)
          · refine tGo rfl rfl (tQ rfl (qMove rfl) (tGo rfl rfl (tQ rfl (qMove rfl) (tGo rfl rfl (tCallQ rfl Tryd.call100 (first := []) (captured := []) rfl rfl (fun w' s' => borderU s'.sub hT ⟨by omega, by omega⟩ (by omega)) (tGo rfl rfl (tQ rfl (qNot rfl) (tGo rfl rfl (tQ rfl (qPickT rfl rfl) (tQ rfl (qPickF rfl rfl) (tEnd (xThen ?_))))))))))))
            refine cIf rfl (fun c38 => ?_) (fun c38 => ?_)
            · refine cSeq (cReg (tQ rfl (qAssign rfl) (tQ rfl (qAssign rfl) (tEnd (xThen (cRet (xRetThen ?_)))))))
              refine xRet2 _ _ Tryd.results48 rfl rfl fun w' s' => ⟨F, M, ?_, s'.less (.cons _ (.refl _))⟩
              have hck : checkOk p := by
                refine Decidable.byContradiction fun h => ?_
                rw [checkE_bad h] at c18; simp at c18
              have hnb : ¬ brdM p.raw s at_ := by
                unfold brdM
                rintro ⟨h1, h2, h3⟩
                simp_all <;> omega
              exact ⟨Sub.refl _, fun h => absurd hck h, fun _ _ => ⟨rfl, rfl⟩, fun _ h => absurd h hnb, fun _ h => absurd h hnb⟩
            · refine cSkip ?_
              refine xMeet _ () ?_ (le_of ⟨rfl, rfl, rfl, trivial⟩) (fun _ s => s)
              unfold brdM
              simp only [Go.V.dsl, reduceCtorEq] at *
              refine ⟨by omega, by omega, fun e => ?_⟩
              simp_all
          · refine tNo rfl rfl rfl rfl (tNo rfl rfl rfl rfl (tNo rfl rfl rfl rfl (tNo rfl rfl rfl rfl (tGo rfl rfl (tQ rfl (qPickF rfl rfl) (tQ rfl (qPickF rfl rfl) (tEnd (xThen (cIfF rfl (cSkip ?_))))))))))
            refine xMeet _ () ?_ (le_of ⟨rfl, rfl, rfl, trivial⟩) (fun _ s => s)
            unfold brdM
            simp only [Go.V.dsl, reduceCtorEq] at *
            refine ⟨by omega, by omega, fun e => ?_⟩
            simp_all
    · rintro u hbr
      refine cSeq ?_
      have hck : checkOk p := by
        refine Decidable.byContradiction fun h => ?_
        rw [checkE_bad h] at c18; simp at c18
      have hn20 := hck.1.2
      have hn1 := hck.1.1
      have hil := hg.insts.len
      obtain ⟨bI, oI, rfl, hIa⟩ := hg.insts.at_ (by omega)
      refine cReg (tQ rfl (qLdNM 0 Tryd.isAgg31 Tryd.sizeOf31 rfl rfl rfl rfl) (tQ rfl (qMove rfl) (tQ rfl (qBuildS build92 rfl rfl) (tBox rfl rfl rfl (cs := engL (.slice (some ⟨bI, oI, none⟩) n cA) (.slice B m cB) (.bool p.raw) s (.slice none 0 0) (.slice none 0 0) (List.replicate 65 (.int .i64 0)) 0 0 (.slice none 0 0)) fun b42 => (tQ rfl (qAssign rfl) (tEnd (xThen (cSeq (cReg (tQ rfl (qMove rfl) (tQ rfl (qMove rfl) (tQ rfl (qMove rfl) (tQ rfl (qFieldAddr Tryd.runUnderlying31 rfl Tryd.sizeOf4 rfl rfl rfl) (tQ rfl (qLd1M 1 Tryd.isAgg4 rfl rfl rfl) ?_))))))))))))))
      refine tCallF rfl Tryd.call101 (first := []) (captured := []) rfl rfl (Φ := CutF p.raw s) CutF.mono (fun w' s' => cut_ (by omega)) fun v F1 hS1 hv => ?_
      obtain ⟨AU, cU, AP, cP, rfl, hU, hP⟩ := hv
      obtain ⟨bP, oP, rfl, hPa⟩ := hP.at_ (by omega)
      refine tQ rfl (qMove rfl) (tQ rfl (qExtract rfl rfl) (tQ rfl (qExtract rfl rfl) (tQ rfl (qNil rfl) (tQ rfl (qFieldAddr Tryd.runUnderlying92 rfl Tryd.sizeOf72 rfl rfl rfl) (tStore1 0 Tryd.sizeOf72 rfl rfl rfl rfl (by simp [engL]) (tQ rfl (qNil rfl) (tQ rfl (qFieldAddr Tryd.runUnderlying92 rfl Tryd.sizeOf24 rfl rfl rfl) (tStore1 0 Tryd.sizeOf24 rfl rfl rfl rfl (by simp [engL]) (tEnd (xThen (cSeq (cBlock (cLoop (⟨fun (k : Nat) => [(1, .string s), (2, .int .i64 at_), (3, .pointer (some ⟨b3, 0, none⟩)), (9, .pointer (some ⟨b42, 0, none⟩))], fun (k : Nat) => F1, fun (k : Nat) => blk b42 (engL (.slice (some ⟨bI, oI, none⟩) n cA) (.slice B m cB) (.bool p.raw) s (.slice AU (mU p.raw s).length cU) (.slice (some ⟨bP, oP, none⟩) ((mU p.raw s).length + 1) cP) (List.replicate 65 (.int .i64 0)) 0 k (.slice none 0 0)) 92 :: blk b3 [.slice (some ⟨bI, oI, none⟩) n cA, .slice B m cB, .bool p.raw] 31 :: M, fun (k : Nat) => k ≤ firstOf (mP p.raw s) at_, fun (k : Nat) => firstOf (mP p.raw s) at_ - k⟩ : LI (Nat)) (loopStart _ 0 (Nat.zero_le _) (le_of ⟨rfl, rfl, rfl, rfl, trivial⟩) (fun _ s => s)) ?_)))))))))))))
      rintro k hk
      refine cSeq (cSeq ?_)
      have hf := firstOf_lt (mem_place hbr)
      have hkl : k < (mP p.raw s).length := by omega
      refine cDrawM 11 [(0, true), (1, true), (2, true), (3, true), (4, true), (5, true), (6, true), (7, true), (8, true), (9, true), (10, true)] Tryd.mixed (by kernel_rfl) (fun _ _ _ _ _ h => h) (dQ rfl rfl (qMove rfl) (fun _ s => s) (dQ rfl rfl (qNil rfl) (fun _ s => s) (dQ rfl rfl (qFieldAddr Tryd.runUnderlying92 rfl Tryd.sizeOf24 rfl rfl rfl) (fun _ s => s) (dQ rfl rfl (qLd1M 0 Tryd.isAgg24 rfl rfl rfl) (fun _ s => s) (dQ rfl rfl (qMove rfl) (fun _ s => s) (dQ rfl rfl (qNil rfl) (fun _ s => s) (dQ rfl rfl (qFieldAddr Tryd.runUnderlying92 rfl Tryd.sizeOf3 rfl rfl rfl) (fun _ s => s) (dQ rfl rfl (qLd1M 0 Tryd.isAgg3 rfl rfl rfl) (fun _ s => s) (dQ rfl rfl (qIdxAddr Tryd.runUnderlying24 Tryd.sizeOf3 rfl rfl rfl (by omega)) (fun _ s => s) (dQ rfl rfl (qLd1 Tryd.isAgg3 rfl (at1_mono (from_sub _ _) (hPa k (by omega)))) (fun _ s => s) (dQ rfl rfl (qMove rfl) (fun _ s => s) ?_)))))))))))
      refine dEnd (tQ rfl (qNe rfl rfl) (tEnd (xThen ?_)))
      refine cIf rfl (fun c67 => ?_) (fun c67 => ?_)
      · refine cSkip (xThen (cBlock (cReg (tQ rfl (qMove rfl) (tQ rfl (qNil rfl) (tQ rfl (qFieldAddr Tryd.runUnderlying92 rfl Tryd.sizeOf3 rfl rfl rfl) (tQ rfl (qLd1M 0 Tryd.isAgg3 rfl rfl rfl) (tQ rfl (qAdd rfl rfl (w64 (by omega) (by omega))) (tQ rfl (qNil rfl) (tQ rfl (qFieldAddr Tryd.runUnderlying92 rfl Tryd.sizeOf3 rfl rfl rfl) (tStore1 0 Tryd.sizeOf3 rfl rfl rfl rfl (by simp [engL]) (tEnd (xBlock ?_)))))))))))))
        have hklt : k < firstOf (mP p.raw s) at_ := by
          rcases Nat.lt_or_ge k (firstOf (mP p.raw s) at_) with h | h
          · exact h
          · have : k = firstOf (mP p.raw s) at_ := by omega
            rw [this, hf.2] at c67; simp at c67
        refine xRound _ (k + 1) ?_ (by dsimp only; omega) (le_of ⟨rfl, rfl, rfl, rfl, trivial⟩) (fun _ s => s)
        omega
      · refine cExit (xExitThen (xExitThen (xExitBlock (xThen (cSeq (cSeq ?_))))))
        have hf := firstOf_lt (mem_place hbr)
        obtain ⟨f, hff⟩ : ∃ f, firstOf (mP p.raw s) at_ = f := ⟨_, rfl⟩
        have hkf : k = f := by
          rcases Nat.lt_or_ge k (firstOf (mP p.raw s) at_) with h | h
          · exact absurd (by simpa using c67) (firstOf_ne h (by omega))
          · omega
        subst hkf
        rw [hff] at hf hk
        obtain ⟨D, hD⟩ : ∃ D, (mP p.raw s).length - k = D := ⟨_, rfl⟩
        obtain ⟨nD, hnD⟩ : ∃ q, q = n * D := ⟨_, rfl⟩
        have hnD2 : nD ≤ 20000 * 2000001 := by rw [hnD]; exact Nat.mul_le_mul (by omega) (by omega)
        refine cDrawM 14 [(0, true), (1, true), (2, true), (3, true), (4, true), (5, true), (6, true), (7, true), (8, true), (9, true), (10, true), (11, true), (12, true), (13, true)] Tryd.mixed (by kernel_rfl) (fun _ _ _ _ _ h => h) (dQ rfl rfl (qFieldAddr Tryd.runUnderlying31 rfl Tryd.sizeOf28 rfl rfl rfl) (fun _ s => s) (dQ rfl rfl (qLd1M 1 Tryd.isAgg28 rfl rfl rfl) (fun _ s => s) (dQ rfl rfl (qLen Tryd.runUnderlying28 rfl rfl) (fun _ s => s) (dQ rfl rfl (qMove rfl) (fun _ s => s) (dQ rfl rfl (qNil rfl) (fun _ s => s) (dQ rfl rfl (qFieldAddr Tryd.runUnderlying92 rfl Tryd.sizeOf24 rfl rfl rfl) (fun _ s => s) (dQ rfl rfl (qLd1M 0 Tryd.isAgg24 rfl rfl rfl) (fun _ s => s) (dQ rfl rfl (qLen Tryd.runUnderlying24 rfl rfl) (fun _ s => s) (dQ rfl rfl (qMove rfl) (fun _ s => s) (dQ rfl rfl (qNil rfl) (fun _ s => s) (dQ rfl rfl (qFieldAddr Tryd.runUnderlying92 rfl Tryd.sizeOf3 rfl rfl rfl) (fun _ s => s) ?_)))))))))))
        refine dQ rfl rfl (qLd1M 0 Tryd.isAgg3 rfl rfl rfl) (fun _ s => s) (dQ rfl rfl (qSub rfl rfl (c := ((D : Nat) : Int)) (by rw [w64 (by omega) (by omega)]; omega)) (fun _ s => s) (dQ rfl rfl (qMul rfl rfl (mulN hnD (by omega))) (fun _ s => s) (dEnd (tQ rfl (qGt rfl rfl) (tEnd (xThen ?_))))))
        refine cIf rfl (fun c89 => ?_) (fun c89 => ?_)
        · refine cSeq (cReg (tQ rfl (qAssign rfl) (tQ rfl (qAssign rfl) (tEnd (xThen (cRet (xRetThen ?_)))))))
          refine xRet2 _ _ Tryd.results48 rfl rfl fun w' s' => ⟨F1, M, ?_, s'.less (.cons _ (.cons _ (.refl _)))⟩
          refine ⟨hS1, fun h => absurd hck h, fun _ h => absurd hbr h, fun _ _ _ => ⟨rfl, rfl⟩, fun _ _ h => ?_⟩
          rw [hff, hD, hil, ← hnD] at h
          simp at c89
          omega
        · refine cSkip (xThen (cSeq (cReg (tQ rfl (qBuildS build164 (cs := mkC p 0) rfl rfl) (tAlloc rfl Tryd.zeroValue164 rfl (cs := List.replicate 65 (.bool false)) fun b10 => (tStoreN 0 Tryd.sizeOf164 rfl rfl (by simp [mkC]) (mkC_one p 0) rfl (by simp) (tEnd (xThen (cSeq (cSeq (cReg (tQ rfl (qFieldAddr Tryd.runUnderlying31 rfl Tryd.sizeOf28 rfl rfl rfl) (tQ rfl (qLd1M 2 Tryd.isAgg28 rfl rfl rfl) (tQ rfl (qLen Tryd.runUnderlying28 rfl rfl) (tQ rfl (qMove rfl) (tEnd (xThen (cBlock (cLoop (⟨fun (i : Nat) => [(3, .pointer (some ⟨b3, 0, none⟩)), (9, .pointer (some ⟨b42, 0, none⟩)), (10, .pointer (some ⟨b10, 0, none⟩)), (92, .slice (some ⟨bI, oI, none⟩) n cA), (93, .int .i64 n), (94, .int .i64 i)], fun (i : Nat) => F1, fun (i : Nat) => blk b10 (mkC p i) 164 :: blk b42 (engL (.slice (some ⟨bI, oI, none⟩) n cA) (.slice B m cB) (.bool p.raw) s (.slice AU (mU p.raw s).length cU) (.slice (some ⟨bP, oP, none⟩) ((mU p.raw s).length + 1) cP) (List.replicate 65 (.int .i64 0)) 0 k (.slice none 0 0)) 92 :: blk b3 [.slice (some ⟨bI, oI, none⟩) n cA, .slice B m cB, .bool p.raw] 31 :: M, fun (i : Nat) => i ≤ n, fun (i : Nat) => n - i⟩ : LI (Nat)) (loopStart _ 0 (Nat.zero_le _) (le_of ⟨rfl, rfl, rfl, rfl, rfl, rfl, trivial⟩) (fun _ s => by have s : WS _ (blk b10 (List.take 0 _ ++ mkC p 0 ++ List.drop (0 + 65) (List.replicate 65 (Value.bool false))) 164 :: _) _ _ := s; simpa using s)) ?_)))))))))))))))))))
          rintro i hi
          refine cSeq (cReg (tQ rfl (qLt rfl rfl) (tEnd (xThen (cSeq ?_)))))
          refine cIf rfl (fun c95 => ?_) (fun c95 => ?_)
          · refine cSkip (xThen (cSeq (cBlock (cSeq ?_))))
            have hlt2 : i < n := by simp at c95; omega
            obtain ⟨Bs, ms, cs', hR, hN⟩ := hIa i hlt2
            have hin := hck.2.2 i (by omega)
            replace hN := atN_mono hS1 hN
            refine cReg (tQ rfl (qIdxAddr Tryd.runUnderlying28 Tryd.sizeOf44 rfl rfl rfl (by omega)) (tQ rfl (qLdN Tryd.isAgg44 Tryd.sizeOf44 rfl hN) (tAlloc rfl Tryd.zeroValue44 rfl (cs := [_, _, _, _, _]) fun b12 => (tStoreN 0 Tryd.sizeOf44 rfl rfl rfl (by simp [Value.oneCell']) rfl (by simp) (tEnd (xThen (cSeq (cReg (tQ rfl (qFieldAddr Tryd.runUnderlying44 rfl Tryd.sizeOf3 rfl rfl rfl) (tQ rfl (qLd1M 0 Tryd.isAgg3 rfl rfl rfl) (tQ rfl (qEq rfl rfl) (tEnd (xThen ?_)))))))))))))
            refine cIf rfl (fun c100 => ?_) (fun c100 => ?_)
            · have hN5 : 0 ≤ (gI p.insts i).n ∧ (gI p.insts i).n ≤ 63 := by
                have h5 : (gI p.insts i).op = 5 := by simpa using c100
                unfold instOk at hin; omega
              refine cReg (tQ rfl (qFieldAddr Tryd.runUnderlying44 rfl Tryd.sizeOf3 rfl rfl rfl) (tQ rfl (qLd1M 0 Tryd.isAgg3 rfl rfl rfl) (tQ rfl (qIdxAddrArr Tryd.runUnderlying164 Tryd.sizeOf4 rfl rfl (j := (gI p.insts i).n.toNat) (by omega) (by omega)) (tStore1 1 Tryd.sizeOf4 rfl rfl rfl rfl (by simp [mkC]; omega) (tEnd (xBlock (xThen (cReg (tQ rfl (qAdd rfl rfl (w64 (by omega) (by omega))) (tQ rfl (qMove rfl) (tEnd ?_)))))))))))
              refine xRound _ (i + 1) ?_ (by dsimp only; omega) (le_of ⟨rfl, rfl, rfl, rfl, rfl, rfl, trivial⟩) (fun _ sw => by first | (have hw := sw.less (.cons _ (.refl _)); show WS _ (blk b10 (mkC p (i + 1)) 164 :: _) _ _; rw [mkC_skip (by omega) (by simpa using c100)]; exact hw) | (have hw : WS _ (blk b10 ((mkC p i).set (0 + (gI p.insts i).n.toNat * 1) (Value.bool true)) 164 :: _) _ _ := sw.less (.cons _ (.refl _)); show WS _ (blk b10 (mkC p (i + 1)) 164 :: _) _ _; rw [Nat.zero_add, Nat.mul_one, mkC_mark (by omega) (by simpa using c100) (by omega) (by omega)] at hw; exact hw))
              omega
            · refine cSkip (xBlock (xThen (cReg (tQ rfl (qAdd rfl rfl (w64 (by omega) (by omega))) (tQ rfl (qMove rfl) (tEnd ?_))))))
              refine xRound _ (i + 1) ?_ (by dsimp only; omega) (le_of ⟨rfl, rfl, rfl, rfl, rfl, rfl, trivial⟩) (fun _ sw => by first | (have hw := sw.less (.cons _ (.refl _)); show WS _ (blk b10 (mkC p (i + 1)) 164 :: _) _ _; rw [mkC_skip (by omega) (by simpa using c100)]; exact hw) | (have hw : WS _ (blk b10 ((mkC p i).set (0 + (gI p.insts i).n.toNat * 1) (Value.bool true)) 164 :: _) _ _ := sw.less (.cons _ (.refl _)); show WS _ (blk b10 (mkC p (i + 1)) 164 :: _) _ _; rw [Nat.zero_add, Nat.mul_one, mkC_mark (by omega) (by simpa using c100) (by omega) (by omega)] at hw; exact hw))
              omega
          · refine cExit (xExitThen (xExitThen (xExitBlock (xThen (cSeq (cSeq ?_))))))
            have hie : n = i := by simp at c95; omega
            subst hie
            refine cReg (tQ rfl (qLdNM 0 Tryd.isAgg164 Tryd.sizeOf164 rfl rfl (vs := mkC p n) (by simp [mkC]) (by rw [List.drop_zero]; exact List.take_of_length_le (by simp [mkC]))) (tQ rfl (qMove rfl) (tEnd (xThen (cBlock (cLoop (⟨fun (l : Nat) => [(3, .pointer (some ⟨b3, 0, none⟩)), (9, .pointer (some ⟨b42, 0, none⟩)), (105, .agg (mkC p n).toArray), (106, .int .i64 l)], fun (l : Nat) => F1, fun (l : Nat) => blk b42 (engL (.slice (some ⟨bI, oI, none⟩) n cA) (.slice B m cB) (.bool p.raw) s (.slice AU (mU p.raw s).length cU) (.slice (some ⟨bP, oP, none⟩) ((mU p.raw s).length + 1) cP) (rkAt (mkOf p.insts) l) (rankOf (mkOf p.insts) l : Nat) k (.slice none 0 0)) 92 :: blk b3 [.slice (some ⟨bI, oI, none⟩) n cA, .slice B m cB, .bool p.raw] 31 :: M, fun (l : Nat) => l ≤ 65, fun (l : Nat) => 65 - l⟩ : LI (Nat)) (loopStart _ 0 (Nat.zero_le _) (le_of ⟨rfl, rfl, rfl, rfl, trivial⟩) (fun _ sw => by have hw := sw.less (.cons _ (.refl _)); show WS _ (blk b42 (engL _ _ _ _ _ _ (rkAt _ 0) _ _ _) 92 :: _) _ _; rw [rkAt_zero]; exact hw)) ?_))))))
            rintro l hl
            refine cSeq (cReg (tQ rfl (qLt rfl rfl) (tEnd (xThen (cSeq ?_)))))
            refine cIf rfl (fun c107 => ?_) (fun c107 => ?_)
            · refine cSkip (xThen (cSeq (cBlock (cSeq ?_))))
              have hl65 : l < 65 := by simp at c107; omega
              refine cReg (tQ rfl (qMove rfl) (tQ rfl (qIdxArr1 Tryd.runUnderlying164 Tryd.sizeOf4 Tryd.isAgg4 rfl rfl rfl hl65 (mkC_at hil hl65)) (tQ rfl (qAssign rfl) (tQ rfl (qAssign rfl) (tEnd (xThen (cSeq (cReg (tQ rfl (qMove rfl) (tEnd (xThen ?_)))))))))))
              refine cIf rfl (fun c110 => ?_) (fun c110 => ?_)
              · refine cSeq (cDrawM 9 [(0, true), (1, true), (2, true), (3, true), (4, true), (5, true), (6, true), (7, true), (8, true)] Tryd.mixed (by kernel_rfl) (fun _ _ _ _ _ h => h) (dQ rfl rfl (qMove rfl) (fun _ s => s) (dQ rfl rfl (qMove rfl) (fun _ s => s) (dQ rfl rfl (qMove rfl) (fun _ s => s) (dQ rfl rfl (qNil rfl) (fun _ s => s) (dQ rfl rfl (qFieldAddr Tryd.runUnderlying92 rfl Tryd.sizeOf3 rfl rfl rfl) (fun _ s => s) (dQ rfl rfl (qLd1M 0 Tryd.isAgg3 rfl rfl (engL_tail (rkAt_len _ _)).1) (fun _ s => s) (dQ rfl rfl (qNil rfl) (fun _ s => s) (dQ rfl rfl (qFieldAddr Tryd.runUnderlying92 rfl Tryd.sizeOf89 rfl rfl rfl) (fun _ s => s) (dQ rfl rfl (qIdxAddrArr Tryd.runUnderlying89 Tryd.sizeOf3 rfl rfl rfl (by omega)) (fun _ s => s) (dEnd ?_)))))))))))
                refine tStore1 0 Tryd.sizeOf3 rfl rfl rfl rfl (by show 0 + 6 + l * 1 < _; rw [engL_len (rkAt_len _ _)]; omega) (tEnd (xThen ?_))
                have hmk : mkOf p.insts l = true := by simpa using c110
                have hrl := rank_le (mkOf p.insts) l
                refine cMem (blk b42 (engL (.slice (some ⟨bI, oI, none⟩) n cA) (.slice B m cB) (.bool p.raw) s (.slice AU (mU p.raw s).length cU) (.slice (some ⟨bP, oP, none⟩) ((mU p.raw s).length + 1) cP) (rkAt (mkOf p.insts) (l + 1)) (rankOf (mkOf p.insts) l : Nat) k (.slice none 0 0)) 92 :: blk b3 [.slice (some ⟨bI, oI, none⟩) n cA, .slice B m cB, .bool p.raw] 31 :: M) (fun _ sw => by have sw : WS _ (blk b42 ((engL (.slice (some ⟨bI, oI, none⟩) n cA) (.slice B m cB) (.bool p.raw) s (.slice AU (mU p.raw s).length cU) (.slice (some ⟨bP, oP, none⟩) ((mU p.raw s).length + 1) cP) (rkAt (mkOf p.insts) l) (rankOf (mkOf p.insts) l : Nat) k (.slice none 0 0)).set (0 + 6 + l * 1) (.int .i64 (rankOf (mkOf p.insts) l : Nat))) 92 :: blk b3 [.slice (some ⟨bI, oI, none⟩) n cA, .slice B m cB, .bool p.raw] 31 :: M) _ _ := sw; rw [show 0 + 6 + l * 1 = 6 + l by omega, engL_setrk (rkAt_len _ _) hl65, rkAt_set hl65 hmk] at sw; exact sw) (cReg (tQ rfl (qMove rfl) (tQ rfl (qNil rfl) (tQ rfl (qFieldAddr Tryd.runUnderlying92 rfl Tryd.sizeOf3 rfl rfl rfl) (tQ rfl (qLd1M 0 Tryd.isAgg3 rfl rfl (engL_tail (rkAt_len _ _)).1) (tQ rfl (qAdd rfl rfl (w64 (by omega) (by omega))) (tQ rfl (qNil rfl) (tQ rfl (qFieldAddr Tryd.runUnderlying92 rfl Tryd.sizeOf3 rfl rfl rfl) (tStore1 0 Tryd.sizeOf3 rfl rfl rfl rfl (by show 71 < _; rw [engL_len (rkAt_len _ _)]; omega) (tEnd (xBlock (xThen (cReg (tQ rfl (qAdd rfl rfl (w64 (by omega) (by omega))) ?_))))))))))))))
                refine tQ rfl (qMove rfl) (tEnd ?_)
                refine xRound _ (l + 1) ?_ (by dsimp only; omega) (le_of ⟨rfl, rfl, rfl, rfl, trivial⟩) (fun _ sw => by show WS _ (blk b42 (engL _ _ _ _ _ _ (rkAt (mkOf p.insts) (l + 1)) (rankOf (mkOf p.insts) (l + 1) : Nat) _ _) 92 :: _) _ _; first | (have hmk : mkOf p.insts l = false := (by simpa using c110); rw [rkAt_skip hmk, rank_succ, if_neg (by simp [hmk])]; exact sw) | (have hw : WS _ (blk b42 (List.set _ 71 (Value.int .i64 (((rankOf (mkOf p.insts) l : Nat) : Int) + 1))) 92 :: _) _ _ := sw; rw [engL_setlv (rkAt_len _ _)] at hw; rw [rank_succ, if_pos hmk]; exact hw))
                omega
              · refine cSkip (xBlock (xThen (cReg (tQ rfl (qAdd rfl rfl (w64 (by omega) (by omega))) (tQ rfl (qMove rfl) (tEnd ?_))))))
                refine xRound _ (l + 1) ?_ (by dsimp only; omega) (le_of ⟨rfl, rfl, rfl, rfl, trivial⟩) (fun _ sw => by show WS _ (blk b42 (engL _ _ _ _ _ _ (rkAt (mkOf p.insts) (l + 1)) (rankOf (mkOf p.insts) (l + 1) : Nat) _ _) 92 :: _) _ _; first | (have hmk : mkOf p.insts l = false := (by simpa using c110); rw [rkAt_skip hmk, rank_succ, if_neg (by simp [hmk])]; exact sw) | (have hw : WS _ (blk b42 (List.set _ 71 (Value.int .i64 (((rankOf (mkOf p.insts) l : Nat) : Int) + 1))) 92 :: _) _ _ := sw; rw [engL_setlv (rkAt_len _ _)] at hw; rw [rank_succ, if_pos hmk]; exact hw))
                omega
            · refine cExit (xExitThen (xExitThen (xExitBlock (xThen (cSeq ?_)))))
              have hl65 : l = 65 := by simp at c107; omega
              subst hl65
              obtain ⟨nL, hnL⟩ : ∃ q, q = nD * rankOf (mkOf p.insts) 65 := ⟨_, rfl⟩
              have hr65 := rank_le (mkOf p.insts) 65
              have hnL2 : nL ≤ 20000 * 2000001 * 65 := by rw [hnL]; exact Nat.mul_le_mul hnD2 hr65
              refine cDrawM 25 [(0, true), (1, true), (2, true), (3, true), (4, true), (5, true), (6, true), (7, true), (8, true), (9, true), (10, true), (11, true), (12, true), (13, true), (14, true), (15, true), (16, true), (17, true), (18, true), (19, true), (20, true), (21, true), (22, false), (23, true), (24, true)] Tryd.mixed (by kernel_rfl) (fun _ _ _ _ _ h => h) (dQ rfl rfl (qMove rfl) (fun _ s => s) (dQ rfl rfl (qFieldAddr Tryd.runUnderlying31 rfl Tryd.sizeOf28 rfl rfl rfl) (fun _ s => s) (dQ rfl rfl (qLd1M 1 Tryd.isAgg28 rfl rfl rfl) (fun _ s => s) (dQ rfl rfl (qLen Tryd.runUnderlying28 rfl rfl) (fun _ s => s) (dQ rfl rfl (qMove rfl) (fun _ s => s) (dQ rfl rfl (qNil rfl) (fun _ s => s) (dQ rfl rfl (qFieldAddr Tryd.runUnderlying92 rfl Tryd.sizeOf24 rfl rfl rfl) (fun _ s => s) (dQ rfl rfl (qLd1M 0 Tryd.isAgg24 rfl rfl rfl) (fun _ s => s) (dQ rfl rfl (qLen Tryd.runUnderlying24 rfl rfl) (fun _ s => s) (dQ rfl rfl (qMove rfl) (fun _ s => s) (dQ rfl rfl (qNil rfl) (fun _ s => s) ?_)))))))))))
              refine dQ rfl rfl (qFieldAddr Tryd.runUnderlying92 rfl Tryd.sizeOf3 rfl rfl rfl) (fun _ s => s) (dQ rfl rfl (qLd1M 0 Tryd.isAgg3 rfl rfl (engL_tail (rkAt_len _ _)).2.1) (fun _ s => s) (dQ rfl rfl (qSub rfl rfl (c := ((D : Nat) : Int)) (by rw [w64 (by omega) (by omega)]; omega)) (fun _ s => s) (dQ rfl rfl (qMul rfl rfl (mulN hnD (by omega))) (fun _ s => s) (dQ rfl rfl (qMove rfl) (fun _ s => s) (dQ rfl rfl (qNil rfl) (fun _ s => s) (dQ rfl rfl (qFieldAddr Tryd.runUnderlying92 rfl Tryd.sizeOf3 rfl rfl rfl) (fun _ s => s) (dQ rfl rfl (qLd1M 0 Tryd.isAgg3 rfl rfl (engL_tail (rkAt_len _ _)).1) (fun _ s => s) (dQ rfl rfl (qMul rfl rfl (mulN hnL (by omega))) (fun _ s => s) (dQ rfl rfl (qQuo rfl rfl (by omega) (quoN nL 64 (by omega))) (fun _ s => s) (dQ rfl rfl (qAdd rfl rfl (w64 (by omega) (by omega))) (fun _ s => s) (dMake (bytes := 8) rfl rfl Tryd.runUnderlying90 Tryd.typeInfo207 rfl Tryd.sizeOf207 Tryd.zeroValue207 rfl rfl rfl (k := nL / 64 + 1) (c := nL / 64 + 1) (by omega) (by omega) (by omega) (by omega) (by omega) (fun _ _ s => s.less (.cons _ (.refl _))) fun b150 => ?_)))))))))))
              refine dQ rfl rfl (qNil rfl) (fun _ s => s.less (.cons _ (.refl _))) (dQ rfl rfl (qFieldAddr Tryd.runUnderlying92 rfl Tryd.sizeOf90 rfl rfl rfl) (fun _ s => s.less (.cons _ (.refl _))) (dEnd (tStore1 1 Tryd.sizeOf90 rfl rfl rfl rfl (by show 73 < _; rw [engL_len (rkAt_len _ _)]; omega) (tEnd (xThen (cSeq (cReg (tQ rfl (qMove rfl) (tQ rfl (qAssign rfl) (tQ rfl (qAssign rfl) (tEnd (xThen (cRet (xFreeze 1 rfl fun FE hSE hAE hNE => ?_))))))))))))))
              refine xRet2 _ _ Tryd.results48 rfl rfl fun w' s' => ⟨FE, _, ?_, s'.less (.cons_cons _ (.cons _ (.refl _)))⟩
              refine ⟨hS1.trans hSE, fun h => absurd hck h, fun _ h => absurd hbr h, fun _ _ h => ?_, fun _ _ _ => ⟨b42, b150, nL / 64 + 1, rfl, ?_, ?_, by omega, ?_⟩⟩
              · rw [hff, hD, hil, ← hnD] at h
                simp at c89
                omega
              · rw [hff]
                have hgi := (hg.insts.mono (hS1.trans hSE))
                rw [← hil, ← hg.names.len] at hAE
                rw [← hil] at hgi
                have hAE : (blk b42 (List.set _ 73 _) 92).At FE := hAE
                rw [engL_setvb (rkAt_len _ _)] at hAE
                exact eng_of hAE hgi (hU.mono ((from_sub _ _).trans hSE)) (hP.mono ((from_sub _ _).trans hSE))
              · rw [hff, hD, hil, ← hnD, ← hnL]; omega
              · rw [← zcells_u64]; rfl

end Go.V
namespace Go.V
open Go.Proofs
set_option linter.unusedVariables false
set_option linter.unusedSimpArgs false

/-- `open`, in terms of the first error. -/
theorem OpenP.gate {p : Prg} {s : ByteArray} {at_ : Int} {F : Hp} {M : List Chunk} {v : Value} {F' : Hp} {M' : List Chunk} (o : OpenP p s at_ F M v F' M') : ∃ pv, v = .tuple #[.pointer pv, .int .i64 (gate p s at_)] ∧ (gate p s at_ ≠ 0 → M' = M) ∧
    (gate p s at_ = 0 → ∃ be bb wl, pv = some ⟨be, 0, none⟩ ∧ Eng F' be bb p s (firstOf (mP p.raw s) at_) wl ∧ p.insts.length * ((mP p.raw s).length - firstOf (mP p.raw s) at_) * rankOf (mkOf p.insts) 65 < 64 * wl ∧ 0 < wl ∧ M' = blk bb (u64c (List.replicate wl 0)) 207 :: M) := by
  obtain ⟨_, h1, h2, h3, h4⟩ := o
  unfold Go.V.gate
  by_cases a : checkOk p
  · by_cases b : brdM p.raw s at_
    · by_cases c : 1048576 < p.insts.length * ((mP p.raw s).length - firstOf (mP p.raw s) at_)
      · obtain ⟨e1, e2⟩ := h3 a b c
        simp only [a, b, c, not_true, if_false, if_true]
        exact ⟨none, e1, fun _ => e2, fun h => by cases h⟩
      · obtain ⟨be, bb, wl, e1, e2, e3, e4, e5⟩ := h4 a b (by omega)
        simp only [a, b, c, not_true, if_false]
        exact ⟨some ⟨be, 0, none⟩, e1, fun h => absurd rfl h, fun _ => ⟨be, bb, wl, rfl, e2, e3, e4, e5⟩⟩
    · obtain ⟨e1, e2⟩ := h2 a b
      simp only [a, b, not_true, not_false_iff, if_false, if_true]
      exact ⟨none, e1, fun _ => e2, fun h => by cases h⟩
  · obtain ⟨e1, e2⟩ := h1 a
    simp only [a, not_false_iff, if_true]
    exact ⟨none, e1, fun _ => e2, fun h => by cases h⟩
/-- A list of places and an error, handed over. -/
def ResP (x : List Int × Int) (v : Value) (C : List Chunk) : Prop := ∃ Ab cb, v = .tuple #[rowV Ab x.1.length cb, .int .i64 x.2] ∧ (Ab = none → cb = 0 ∧ x.1.length = 0) ∧ C = [row Ab cb 3 1 (x.1.map (.int .i64 ·))]
theorem fromO_ {F : Hp} {w : World} {A B : Option Addr} {n m cA cB : Nat} {p : Prg} {s : ByteArray} {at_ : Int} {longest : Bool} (hF : Sub F (hp w)) (hT : T F) (hg : RdG F A n B m p) (hc : m ≤ cB) (hat : I64 at_) (hsz : s.size ≤ 2000000) :
    Calls Tryd.prog 20 [.agg #[.slice A n cA, .slice B m cB, .bool p.raw], .string s, .int .i64 at_, .bool longest].toArray w (fun e w' => ∃ v, e = .returned v ∧ ∃ C, Own w w' C ∧ ResP (backFrom p s at_ longest) v C) := by
  replace hg := hg.mono hF
  replace hT := hT.mono hF
  refine Calls.mono (enterG (R := fun v w' => ∃ C, Own w w' C ∧ ResP (backFrom p s at_ longest) v C) 37 Tryd.func20 Tryd.ntmps20 rfl rfl (WS.start w) ?_) (fun e w' ⟨v, h1, h2⟩ => ⟨v, h1, h2⟩)
  refine cSeq (cReg (tBox rfl rfl rfl (cs := [_, _, _]) fun b4 => (tQ rfl (qAssign rfl) (tQ rfl (qAssign rfl) (tEnd (xThen (cSeq (cReg (tQ rfl (qLdNM 0 Tryd.isAgg31 Tryd.sizeOf31 rfl rfl rfl rfl) (tQ rfl (qMove rfl) (tQ rfl (qMove rfl) (tCallG rfl Tryd.call48 (first := []) (captured := []) rfl rfl (fun w' s' => open_B s' hT hg hc hat hsz) fun v F1 M1 hP => ?_))))))))))))
  obtain ⟨pv, rfl, hg1, hg2⟩ := hP.gate
  have hF1 := hP.sub
  clear hP
  refine tQ rfl (qMove rfl) (tQ rfl (qExtract rfl rfl) (tQ rfl (qExtract rfl rfl) (tQ rfl (qAssign rfl) (tQ rfl (qAssign rfl) (tEnd (xThen (cSeq (cSeq (cReg (tQ rfl (qMove rfl) (tQ rfl (qNe rfl rfl) (tEnd (xThen ?_)))))))))))))
  refine cIf rfl (fun c21 => ?_) (fun c21 => ?_)
  · refine cSeq (cReg (tQ rfl (qMove rfl) (tQ rfl (qAssign rfl) (tQ rfl (qAssign rfl) (tEnd (xThen (cRet (xRetThen ?_))))))))
    obtain rfl := hg1 (by simpa using c21)
    have hb : backFrom p s at_ longest = ([], gate p s at_) := ans_bad (by simpa using c21)
    refine xRet2 _ _ Tryd.results20 rfl rfl fun w' s' => ⟨_, ((s'.less (List.nil_sublist _)).nilRow 3 1).toOwn hF1, none, 0, by rw [hb]; rfl, fun _ => ⟨rfl, by rw [hb]; rfl⟩, by rw [hb]; rfl⟩
  · refine cSkip (xThen (cSeq ?_))
    have hg0 : gate p s at_ = 0 := by simpa using c21
    obtain ⟨hck, hbr, hnd⟩ := gate_ok hg0
    obtain ⟨be, bb, wl, rfl, he, hcap, hwl0, rfl⟩ := hg2 hg0
    clear hg1 hg2
    have hf := firstOf_lt (mem_place hbr)
    obtain ⟨f, hff⟩ : ∃ f, firstOf (mP p.raw s) at_ = f := ⟨_, rfl⟩
    have hml := mU_len p.raw s
    have hpl := mP_len p.raw s
    rw [hff] at hf he hcap hnd
    have hT1 := hT.mono hF1
    have hD : ((mP p.raw s).length - f) + f = (mU p.raw s).length + 1 := by omega
    refine cReg (tQ rfl (qMove rfl) (tQ rfl (qNil rfl) (tQ rfl (qFieldAddr Tryd.runUnderlying92 rfl Tryd.sizeOf90 rfl rfl rfl) (tQ rfl (qLd1 Tryd.isAgg90 rfl he.been) (tClear 0 Tryd.runUnderlying90 Tryd.zeroValue207 rfl rfl rfl rfl hwl0 (by simp [u64c]) (tEnd (xThen (cSeq (cSeq (cMem (blk bb (u64c (List.replicate wl 0)) 207 :: _) (fun _ sw => by rw [u64c_zero]; exact sw) (cReg (tQ rfl (qMove rfl) (tQ rfl (qMove rfl) (tQ rfl (qNil rfl) ?_))))))))))))))
    refine tQ rfl (qFieldAddr Tryd.runUnderlying92 rfl Tryd.sizeOf3 rfl rfl rfl) (tQ rfl (qLd1 Tryd.isAgg3 rfl he.first) (tQ rfl (qMove rfl) (tCallG rfl Tryd.call49 (first := []) (captured := []) rfl rfl (fun w' s' => from_B (V0 := noV) s' he hT1 hck hD ⟨Nat.le_refl _, by omega⟩ hnd hsz (by simp) (small_zero _) hcap (vis_zero _ _ _ _ _)) fun v F2 M2 hP => ?_)))
    obtain ⟨hF2, Ab, cb, ws, rfl, rfl, hw1, hw2, hw3, hw4, hw5⟩ := hP
    rw [show (fin (machOf p s) noV [startT p s f]).1 = hitsOf p s f from rfl]
    refine tQ rfl (qAssign rfl) (tEnd (xThen (cSeq (cReg (tQ rfl (qMove rfl) (tQ rfl (qSliceNeNil Tryd.runUnderlying24 rfl rfl) (tEnd (xThen ?_))))))))
    refine cIf rfl (fun c35 => ?_) (fun c35 => ?_)
    · refine cSeq (cReg (tQ rfl (qMove rfl) (tQ rfl (qAssign rfl) (tQ rfl (qAssign rfl) (tEnd (xThen (cRet (xRetThen ?_))))))))
      obtain ⟨mm, hmm⟩ : ∃ mm, Bst longest (hitsOf p s f) = some mm := by
        cases h : Bst longest (hitsOf p s f) with
        | none => have := (hw4 h).1; subst this; simp at c35
        | some mm => exact ⟨mm, rfl⟩
      have hb : backFrom p s at_ longest = (mm, 0) := ans_some hg0 (by rw [hff]; exact hmm)
      refine xRet2 _ _ Tryd.results20 rfl rfl fun w' s' => ⟨_, (s'.less (.cons_cons _ (.cons _ (.cons _ (.refl _))))).toOwn (hF1.trans hF2), Ab, cb, by rw [hb, hmm]; rfl, fun e => absurd e (hw5 mm hmm).2, by rw [hb]; have hmm2 : Bst longest (hitsOf p s f) = some mm := hmm; rw [hmm2]; rfl⟩
    · refine cSkip (xThen (cSeq (cReg (tQ rfl (qAssign rfl) (tQ rfl (qAssign rfl) (tEnd (xThen (cRet ?_))))))))
      have hn : Bst longest (hitsOf p s f) = none := by
        cases h : Bst longest (hitsOf p s f) with
        | none => rfl
        | some mm => have := (hw5 mm h).2; cases Ab with
          | none => exact absurd rfl this
          | some b => simp at c35
      have hb : backFrom p s at_ longest = ([], 7) := ans_none hg0 (by rw [hff]; exact hn)
      refine xRet2 _ _ Tryd.results20 rfl rfl fun w' s' => ⟨_, ((s'.less (List.nil_sublist _)).nilRow 3 1).toOwn (hF1.trans hF2), none, 0, by rw [hb]; rfl, fun _ => ⟨rfl, by rw [hb]; rfl⟩, by rw [hb]; rfl⟩

theorem matchO_ {F : Hp} {w : World} {A B : Option Addr} {n m cA cB : Nat} {p : Prg} {s : ByteArray} {at_ : Int} {longest : Bool} (hF : Sub F (hp w)) (hT : T F) (hg : RdG F A n B m p) (hc : m ≤ cB) (hat : I64 at_) (hsz : s.size ≤ 2000000) :
    Calls Tryd.prog 18 [.agg #[.slice A n cA, .slice B m cB, .bool p.raw], .string s, .int .i64 at_, .bool longest].toArray w (fun e w' => ∃ v, e = .returned v ∧ ∃ C, Own w w' C ∧ ResP (backMatch p s at_ longest) v C) := by
  replace hg := hg.mono hF
  replace hT := hT.mono hF
  refine Calls.mono (enterG (R := fun v w' => ∃ C, Own w w' C ∧ ResP (backMatch p s at_ longest) v C) 48 Tryd.func18 Tryd.ntmps18 rfl rfl (WS.start w) ?_) (fun e w' ⟨v, h1, h2⟩ => ⟨v, h1, h2⟩)
  refine cSeq (cReg (tBox rfl rfl rfl (cs := [_, _, _]) fun b4 => (tQ rfl (qAssign rfl) (tQ rfl (qAssign rfl) (tEnd (xThen (cSeq (cReg (tQ rfl (qLdNM 0 Tryd.isAgg31 Tryd.sizeOf31 rfl rfl rfl rfl) (tQ rfl (qMove rfl) (tQ rfl (qMove rfl) (tCallG rfl Tryd.call48 (first := []) (captured := []) rfl rfl (fun w' s' => open_B s' hT hg hc hat hsz) fun v F1 M1 hP => ?_))))))))))))
  obtain ⟨pv, rfl, hg1, hg2⟩ := hP.gate
  have hF1 := hP.sub
  clear hP
  refine tQ rfl (qMove rfl) (tQ rfl (qExtract rfl rfl) (tQ rfl (qExtract rfl rfl) (tQ rfl (qAssign rfl) (tQ rfl (qAssign rfl) (tEnd (xThen (cSeq (cSeq (cReg (tQ rfl (qMove rfl) (tQ rfl (qNe rfl rfl) (tEnd (xThen ?_)))))))))))))
  refine cIf rfl (fun c22 => ?_) (fun c22 => ?_)
  · refine cSeq (cReg (tQ rfl (qMove rfl) (tQ rfl (qAssign rfl) (tQ rfl (qAssign rfl) (tEnd (xThen (cRet (xRetThen ?_))))))))
    obtain rfl := hg1 (by simpa using c22)
    have hb : backMatch p s at_ longest = ([], gate p s at_) := ans_bad (by simpa using c22)
    refine xRet2 _ _ Tryd.results18 rfl rfl fun w' s' => ⟨_, ((s'.less (List.nil_sublist _)).nilRow 3 1).toOwn hF1, none, 0, by rw [hb]; rfl, fun _ => ⟨rfl, by rw [hb]; rfl⟩, by rw [hb]; rfl⟩
  · refine cSkip (xThen (cSeq ?_))
    have hg0 : gate p s at_ = 0 := by simpa using c22
    obtain ⟨hck, hbr, hnd⟩ := gate_ok hg0
    obtain ⟨be, bb, wl, rfl, he, hcap, hwl0, rfl⟩ := hg2 hg0
    clear hg1 hg2
    have hf := firstOf_lt (mem_place hbr)
    obtain ⟨f, hff⟩ : ∃ f, firstOf (mP p.raw s) at_ = f := ⟨_, rfl⟩
    have hml := mU_len p.raw s
    have hpl := mP_len p.raw s
    rw [hff] at hf he hcap hnd
    have hT1 := hT.mono hF1
    have hD : ((mP p.raw s).length - f) + f = (mU p.raw s).length + 1 := by omega
    refine cReg (tQ rfl (qMove rfl) (tQ rfl (qNil rfl) (tQ rfl (qFieldAddr Tryd.runUnderlying92 rfl Tryd.sizeOf90 rfl rfl rfl) (tQ rfl (qLd1 Tryd.isAgg90 rfl he.been) (tClear 0 Tryd.runUnderlying90 Tryd.zeroValue207 rfl rfl rfl rfl hwl0 (by simp [u64c]) (tEnd (xThen (cSeq (cSeq (cMem (blk bb (u64c (List.replicate wl 0)) 207 :: _) (fun _ sw => by rw [u64c_zero]; exact sw) ?_))))))))))
    obtain ⟨AP, cP, hP1, -⟩ := he.places
    refine cReg (tQ rfl (qMove rfl) (tQ rfl (qNil rfl) (tQ rfl (qFieldAddr Tryd.runUnderlying92 rfl Tryd.sizeOf3 rfl rfl rfl) (tQ rfl (qLd1 Tryd.isAgg3 rfl he.first) (tQ rfl (qAssign rfl) (tEnd (xThen (cBlock (cLoop (⟨fun (⟨Fl, bd, ws, V⟩ : Hp × Nat × List Nat × Vis) => [(3, .bool longest), (10, .pointer (some ⟨be, 0, none⟩)), (12, .int .i64 bd)], fun (⟨Fl, bd, ws, V⟩ : Hp × Nat × List Nat × Vis) => Fl, fun (⟨Fl, bd, ws, V⟩ : Hp × Nat × List Nat × Vis) => blk bb (u64c ws) 207 :: blk b4 [.slice A n cA, .slice B m cB, .bool p.raw] 31 :: [], fun (⟨Fl, bd, ws, V⟩ : Hp × Nat × List Nat × Vis) => Sub F1 Fl ∧ f ≤ bd ∧ bd ≤ (mP p.raw s).length ∧ ws.length = wl ∧ small ws ∧ VisRel p.insts.length ((mP p.raw s).length - f) f (mkOf p.insts) ws V ∧ Closed (machOf p s) V [] ∧ firstHit p s longest ((mP p.raw s).length - f) f = firstHit p s longest ((mP p.raw s).length - bd) bd, fun (⟨Fl, bd, ws, V⟩ : Hp × Nat × List Nat × Vis) => (mP p.raw s).length - bd⟩ : LI (Hp × Nat × List Nat × Vis)) (loopStart _ (F1, f, List.replicate wl 0, noV) ⟨Sub.refl _, Nat.le_refl _, by omega, by simp, small_zero _, vis_zero _ _ _ _ _, closed_noV _, rfl⟩ (le_of ⟨rfl, rfl, rfl, trivial⟩) (fun _ s => s)) ?_)))))))))
    rintro ⟨Fl, bd, ws, V⟩ ⟨hFl, hbl, hbh, hwl, hsm, hvis, hclosed, hfh⟩
    refine cSeq (cSeq (cReg (tQ rfl (qMove rfl) (tQ rfl (qMove rfl) (tQ rfl (qNil rfl) (tQ rfl (qFieldAddr Tryd.runUnderlying92 rfl Tryd.sizeOf24 rfl rfl rfl) (tQ rfl (qLd1 Tryd.isAgg24 rfl (at1_mono hFl hP1)) (tQ rfl (qLen Tryd.runUnderlying24 rfl rfl) (tQ rfl (qLt rfl rfl) (tEnd (xThen ?_)))))))))))
    refine cIf rfl (fun c38 => ?_) (fun c38 => ?_)
    · refine cSkip (xThen (cSeq (cBlock (cSeq ?_))))
      have hbd : bd < (mP p.raw s).length := by simp at c38; omega
      refine cReg (tQ rfl (qMove rfl) (tQ rfl (qMove rfl) (tQ rfl (qMove rfl) (tCallG rfl Tryd.call49 (first := []) (captured := []) rfl rfl (fun w' s' => from_B (V0 := V) s' (he.mono hFl) (hT1.mono hFl) hck hD ⟨hbl, by omega⟩ hnd hsz hwl hsm hcap hvis) fun v F2 M2 hP => ?_))))
      obtain ⟨hF2, Ab, cb, ws2, rfl, rfl, hw1, hw2, hw3, hw4, hw5⟩ := hP
      have hcl := fin_clean (S := [startT p s bd]) hclosed
      refine tQ rfl (qAssign rfl) (tEnd (xThen (cSeq (cReg (tQ rfl (qMove rfl) (tQ rfl (qSliceNeNil Tryd.runUnderlying24 rfl rfl) (tEnd (xThen ?_))))))))
      refine cIf rfl (fun c46 => ?_) (fun c46 => ?_)
      · refine cSeq (cReg (tQ rfl (qMove rfl) (tQ rfl (qAssign rfl) (tQ rfl (qAssign rfl) (tEnd (xThen (cRet (xRetBlock (xRetThen (xRetThen (xRetBlock (xRetThen ?_))))))))))))
        obtain ⟨mm, hmm⟩ : ∃ mm, Bst longest (fin (machOf p s) V [startT p s bd]).1 = some mm := by
          cases h : Bst longest (fin (machOf p s) V [startT p s bd]).1 with
          | none => have := (hw4 h).1; subst this; simp at c46
          | some mm => exact ⟨mm, rfl⟩
        have hb : backMatch p s at_ longest = (mm, 0) := ans_some hg0 (by rw [hff, hfh]; exact first_some (by omega) (by rw [← hmm, hcl]; rfl))
        refine xRet2 _ _ Tryd.results18 rfl rfl fun w' s' => ⟨_, (s'.less (.cons_cons _ (.cons _ (.cons _ (.refl _))))).toOwn (hF1.trans (hFl.trans hF2)), Ab, cb, by rw [hb, hmm]; rfl, fun e => absurd e (hw5 mm hmm).2, by rw [hb, hmm]; rfl⟩
      · refine cSkip (xBlock (xThen (cReg (tQ rfl (qMove rfl) (tQ rfl (qAdd rfl rfl (w64 (by omega) (by omega))) (tQ rfl (qAssign rfl) (tEnd ?_)))))))
        have hn : Bst longest (fin (machOf p s) V [startT p s bd]).1 = none := by
          cases h : Bst longest (fin (machOf p s) V [startT p s bd]).1 with
          | none => rfl
          | some mm => have := (hw5 mm h).2; cases Ab with
            | none => exact absurd rfl this
            | some b => simp at c46
        have hn0 := bst_none.1 hn
        have hh : Bst longest (hitsOf p s bd) = none := by rw [← hn, hcl]; rfl
        refine xRound _ (F2, bd + 1, ws2, (fin (machOf p s) V [startT p s bd]).2) ?_ (by dsimp only; omega) (le_of ⟨rfl, rfl, rfl, trivial⟩) (fun _ s => s.less (.cons _ (.refl _)))
        exact ⟨hFl.trans hF2, by omega, by omega, hw1, hw2, hw3 hn0, closed_next hclosed hn0, by rw [hfh, first_none (by omega) hh]; rfl⟩
    · refine cExit (xExitThen (xExitThen (xExitBlock (xThen (cSeq ?_)))))
      have hbe : bd = (mP p.raw s).length := by simp at c38; omega
      refine cReg (tQ rfl (qAssign rfl) (tQ rfl (qAssign rfl) (tEnd (xThen (cRet ?_)))))
      have hb : backMatch p s at_ longest = ([], 7) := ans_none hg0 (by rw [hff, hfh, hbe, Nat.sub_self]; rfl)
      refine xRet2 _ _ Tryd.results18 rfl rfl fun w' s' => ⟨_, ((s'.less (List.nil_sublist _)).nilRow 3 1).toOwn (hF1.trans hFl), none, 0, by rw [hb]; rfl, fun _ => ⟨rfl, by rw [hb]; rfl⟩, by rw [hb]; rfl⟩

end Go.V
