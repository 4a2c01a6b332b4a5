/-
  Lemmas of this claim's own, part 13: contracts of the functions that the statement reaches, and the plain facts behind them.
-/
import Derived.Test.YtkebkfipjodnnaaDoorB11
import Derived.Laws.BytesString
set_option linter.unusedVariables false
set_option linter.unusedSimpArgs false
namespace Go.V
/-! ### A program that comes to nothing, over a text of one letter -/
def insF : Ins := ⟨8, [], 0, 0, 0⟩
def pF (N : Nat) (raw : Bool) : Prg := ⟨List.replicate N insF, [], raw⟩
theorem gI_rep {N i : Nat} (h : i < N) : gI (List.replicate N insF) i = insF := by
  simp [gI, h]
theorem pF_ok {N : Nat} {raw : Bool} (h1 : 1 ≤ N) (h2 : N ≤ 20000) : checkOk (pF N raw) := by
  refine ⟨by simp [pF]; omega, by simp [pF, namesOk], fun i hi => ?_⟩
  have hi' : i < N := by simpa [pF] using hi
  simp only [pF, gI_rep hi']
  unfold instOk insF
  simp
def As (s : ByteArray) : Prop := ∀ i, i < s.size → B s i = 97
theorem as_chr {s : ByteArray} (h : As s) {q : Nat} (hq : q < s.size) : chr s q = (97, 1) := by
  rw [chr_ascii (by rw [h q hq]; decide), h q hq]
theorem as_unt {s : ByteArray} (h : As s) {q : Nat} (hq : q < s.size) : unt s q = (97, 1) := by
  unfold unt
  rw [as_chr h hq]; rfl
theorem as_uns {s : ByteArray} (h : As s) : ∀ k q, q + k = s.size → (unsAt s q).length = k
  | 0, q, e => by rw [unsAt_ge (by omega)]; rfl
  | k + 1, q, e => by
    rw [unsAt_lt (by omega), as_unt h (by omega), List.length_cons, as_uns h k (q + 1) (by omega)]
theorem as_brd {s : ByteArray} (h : As s) {raw : Bool} {at_ : Int} (h1 : 0 ≤ at_) (h2 : at_ ≤ s.size) : brdM raw s at_ := by
  refine ⟨h1, h2, fun _ => ⟨h1, h2, ?_⟩⟩
  unfold bord
  refine ⟨fun h3 => ?_, fun h3 => ?_, fun h3 => ?_⟩
  · rw [as_chr h (by omega)]; decide
  · rw [as_chr h (by omega)]; decide
  · rw [as_chr h (by omega)]; decide
theorem as_count {s : ByteArray} (h : As s) {raw : Bool} {q : Nat} (hq : q ≤ s.size) : (mP raw s).length - firstOf (mP raw s) (q : Int) = s.size - q + 1 := by
  cases raw with
  | true => exact borders_raw hq
  | false =>
    have hb := (as_brd (raw := false) h (at_ := (q : Int)) (by omega) (by omega)).2.2 rfl
    rw [borders_count hb hq, as_uns h (s.size - q) q (by omega)]
theorem pF_hits {N : Nat} {raw : Bool} {s : ByteArray} {bd : Nat} (h1 : 1 ≤ N) : hitsOf (pF N raw) s bd = [] := by
  unfold hitsOf
  rw [fin]
  split
  · rw [fin]
  · have e : (machOf (pF N raw) s).step (startT (pF N raw) s bd) = .die := by
      unfold Mach.step machOf startT pF
      simp only [gI_rep (show 0 < N by omega)]
      simp [insF]
    rw [e, fin]
/-- What is answered: a place that is none, too much work, or nothing. -/
def largeE (N : Nat) (z at_ : Int) : Int := if at_ < 0 ∨ z < at_ then 3 else if 1048576 < (N : Int) * (z - at_ + 1) then 6 else 7
theorem pF_ans {N : Nat} {raw l : Bool} {s : ByteArray} {at_ : Int} (h : As s) (h1 : 1 ≤ N) (h2 : N ≤ 20000) : backMatch (pF N raw) s at_ l = ([], largeE N s.size at_) ∧ backFrom (pF N raw) s at_ l = ([], largeE N s.size at_) := by
  have hc : checkOk (pF N raw) := pF_ok h1 h2
  have hr : (pF N raw).raw = raw := rfl
  have hl : (pF N raw).insts.length = N := by simp [pF]
  unfold largeE
  by_cases hb : at_ < 0 ∨ (s.size : Int) < at_
  · rw [if_pos hb]
    have hg := gate_range (s := s) (at_ := at_) hc (by rw [hr]; rintro ⟨h3, h4, _⟩; omega)
    have := back_bad (l := l) (show gate (pF N raw) s at_ ≠ 0 by rw [hg]; decide)
    rw [hg] at this
    exact ⟨this.2, this.1⟩
  · rw [if_neg hb]
    obtain ⟨q, rfl⟩ : ∃ q : Nat, at_ = (q : Int) := ⟨at_.toNat, by omega⟩
    have hbr : brdM raw s (q : Int) := as_brd h (by omega) (by omega)
    have hcnt := as_count (raw := raw) h (q := q) (by omega)
    have hcast : (N : Int) * ((s.size : Int) - q + 1) = ((N * (s.size - q + 1) : Nat) : Int) := by
      rw [Int.natCast_mul]
      congr 1
      omega
    rw [hcast]
    by_cases hw : 1048576 < N * (s.size - q + 1)
    · rw [if_pos (by omega)]
      have hg := gate_large (s := s) (at_ := (q : Int)) hc hbr (by rw [hl, hr, hcnt]; exact hw)
      have := back_bad (l := l) (show gate (pF N raw) s (q : Int) ≠ 0 by rw [hg]; decide)
      rw [hg] at this
      exact ⟨this.2, this.1⟩
    · rw [if_neg (by omega)]
      have hg := gate_good (s := s) (at_ := (q : Int)) hc hbr (by rw [hl, hr, hcnt]; exact hw)
      refine ⟨ans_none hg (first_no _ _ fun j _ _ => pF_hits h1), ?_⟩
      unfold backFrom
      rw [hg, pF_hits h1, bst_none.2 rfl]; rfl
/-! ### The program's rows -/
def insC : List Value := [.int .i64 8, .slice none 0 0, .int .i64 0, .int .i64 0, .int .i64 0]
def rowsF (k : Nat) : List Value := (List.replicate k insC).flatten
theorem rowsF_len (k : Nat) : (rowsF k).length = k * 5 := by simp [rowsF, insC]
theorem rowsF_succ (k : Nat) : rowsF k ++ insC = rowsF (k + 1) := by
  unfold rowsF
  rw [List.replicate_succ', List.flatten_append]
  simp
theorem rowsF_at : ∀ {N i : Nat}, i < N → ((rowsF N).drop (i * 5)).take 5 = insC
  | 0, i, h => by omega
  | N + 1, 0, h => by
    unfold rowsF
    rw [List.replicate_succ, List.flatten_cons]
    rfl
  | N + 1, i + 1, h => by
    have ih := rowsF_at (N := N) (i := i) (by omega)
    unfold rowsF at ih ⊢
    rw [List.replicate_succ, List.flatten_cons, show (i + 1) * 5 = insC.length + i * 5 by simp [insC]; omega, List.drop_append, List.drop_of_length_le (by omega)]
    simpa using ih
theorem rd_pF {h : Hp} {A : Option Nat} {cap e N : Nat} {raw : Bool} (hN : N ≤ 20000) (r : (row A cap e 5 (rowsF N)).At h) (hA : A = none → cap = 0 ∧ N = 0) : RdG h (A.map fun b => ⟨b, 0, none⟩) N none 0 (pF N raw) := by
  have hBig : Big = 1048576 := rfl
  refine ⟨⟨by simp [pF], fun x hx => ?_, fun h0 => ?_⟩, ⟨rfl, fun h => by omega⟩, by omega, by omega, fun s hs => by cases hs⟩
  · have : x = insF := by simp only [pF, List.mem_replicate] at hx; exact hx.2
    subst this
    simp only [insF, I64]; decide
  · cases A with
    | none => have := (hA rfl).2; omega
    | some b =>
      refine ⟨b, 0, rfl, fun i hi => ⟨none, 0, 0, ?_, ?_⟩⟩
      · simp only [pF, gI_rep hi]; exact RdR.nil _ _
      · simp only [pF, gI_rep hi]
        rw [row_atN r (by rw [rowsF_len]; omega), Nat.zero_add, rowsF_at hi]; rfl
/-! ### Bytes as a text -/
theorem B_push_lt {s : ByteArray} {x : UInt8} {i : Nat} (h : i < s.size) : B (s.push x) i = B s i := by
  have a := get_at (s := s.push x) (i := i) (by rw [ByteArray.size_push]; omega)
  have b := get_at (s := s) h
  rw [getElem?_pos (s.push x) i (by rw [ByteArray.size_push]; omega)] at a
  rw [getElem?_pos s i h] at b
  have a := Option.some.inj a
  have b := Option.some.inj b
  have e : (s.push x)[i]'(by rw [ByteArray.size_push]; omega) = s[i] := by
    cases s with
    | mk d =>
      show (d.push x)[i]'_ = d[i]'_
      exact Array.getElem_push_lt _
  unfold B
  rw [← a, ← b, e]
theorem B_push_eq {s : ByteArray} {x : UInt8} : B (s.push x) s.size = x.toNat := by
  have a := get_at (s := s.push x) (i := s.size) (by rw [ByteArray.size_push]; omega)
  rw [getElem?_pos (s.push x) s.size (by rw [ByteArray.size_push]; omega)] at a
  have a := Option.some.inj a
  have e : (s.push x)[s.size]'(by rw [ByteArray.size_push]; omega) = x := by
    cases s with
    | mk d =>
      show (d.push x)[d.size]'_ = x
      exact Array.getElem_push_eq
  unfold B
  rw [← a, e]
def strB (ns : List Int) : ByteArray := ns.foldl (fun r n => r.push (UInt8.ofNat n.toNat)) ByteArray.empty
theorem strB_snoc (ns : List Int) (x : Int) : strB (ns ++ [x]) = (strB ns).push (UInt8.ofNat x.toNat) := by simp [strB]
theorem strB_as : ∀ k, (strB (List.replicate k 97)).size = k ∧ As (strB (List.replicate k 97))
  | 0 => ⟨rfl, fun i hi => by cases hi⟩
  | k + 1 => by
    obtain ⟨h1, h2⟩ := strB_as k
    have e : List.replicate (k + 1) (97 : Int) = List.replicate k 97 ++ [97] := List.replicate_succ'
    rw [e, strB_snoc]
    have hs : ((strB (List.replicate k 97)).push (UInt8.ofNat (97 : Int).toNat)).size = k + 1 := by rw [ByteArray.size_push, h1]
    refine ⟨hs, fun i hi => ?_⟩
    rw [hs] at hi
    rcases Nat.lt_or_ge i k with h | h
    · rw [B_push_lt (by omega)]
      exact h2 i (by omega)
    · obtain rfl : i = (strB (List.replicate k 97)).size := by omega
      rw [B_push_eq]; rfl
/-- `string(b)`, of bytes of the call's own. -/
theorem qStrOf {P : Program} {n : Nat} {ρ : Env} {F : Hp} {M : List Chunk} {w0 : World} {ty : TypeId} {t t' e u : TypeId} {x : Operand} (i : Nat) {b k cap : Nat} {ns : List Int} (ht : P.underlying t = some (.slice e)) (he : P.underlying e = some (.int .u8)) (ht' : P.underlying t' = some .string)
    (hx : evl ρ x = some (.slice (some ⟨b, 0, none⟩) k cap)) (hm : M[i]? = some (blk b (ns.map (Value.int .u8)) u)) (hl : ns.length = k) : Qv P n (.convert t t' x) ty ρ F M w0 (.string (strB ns)) := fun c w f s dst pos after guard => by
  have h1 := run_loadCells P (blk_atN (s.get i hm) (o := 0) (k := k) (by rw [Nat.ble_eq, List.length_map, hl]; omega))
  rw [List.drop_zero, List.take_of_length_le (by rw [List.length_map, hl]; exact Nat.le_refl _)] at h1
  have h2 := run_bytesToString (P := P) w ⟨b, 0, none⟩ k cap ns h1
  simp only [execOp, f.eval hx, Sem.run_bind, run_convert_bytes_string w t t' e _ _ _ ht he ht', h2, Result.andThen_ok]
  rfl
theorem rep_set {α : Type} {N k : Nat} {a b : α} (h : k < N) : (List.replicate k a ++ List.replicate (N - k) b).set k a = List.replicate (k + 1) a ++ List.replicate (N - (k + 1)) b := by
  rw [List.set_append_right _ _ (by simp), List.length_replicate, Nat.sub_self]
  rw [show N - k = (N - (k + 1)) + 1 by omega, List.replicate_succ, List.set_cons_zero, List.replicate_succ' (n := k), List.append_assoc]
  rfl
end Go.V
namespace Go.V
open Go.Proofs
set_option linter.unusedVariables false
set_option linter.unusedSimpArgs false

theorem backLarge_ {F : Hp} {w : World} {N Z at_ : Int} {raw : Bool} (hF : Sub F (hp w)) (hT : T F) (hat : I64 at_) :
    Calls Tryd.prog 5 [.agg #[.int .i64 N, .int .i64 Z, .int .i64 at_, .bool raw]].toArray w (fun e w' => e = .returned (.bool true) ∧ Ext w w') := by
  replace hT := hT.mono hF
  refine Calls.mono (enterG (R := fun v w' => v = .bool true ∧ Ext w w') 116 Tryd.func5 Tryd.ntmps5 rfl rfl (WS.start w) ?_) (fun e w' ⟨v, h1, h2, h3⟩ => ⟨by rw [h1, h2], h3⟩)
  refine cSeq (cReg (tBox rfl rfl rfl (cs := [_, _, _, _]) fun b1 => (tQ rfl (qAssign rfl) (tEnd (xThen (cSeq (cSeq (cReg (tCallQ rfl Tryd.call13 (first := []) (captured := []) rfl rfl (fun w' s' => wakes_ s'.sub hT) (tQ rfl (qNot rfl) (tEnd (xThen ?_))))))))))))
  refine cIf rfl (fun c13 => ?_) (fun c13 => ?_)
  · refine cSeq (cReg (tQ rfl (qAssign rfl) (tEnd (xThen (cRet (xRetThen ?_))))))
    exfalso
    simp at c13
  · refine cSkip (xThen (cSeq (cSeq (cReg (tQ rfl (qFieldAddr Tryd.runUnderlying40 rfl Tryd.sizeOf3 rfl rfl rfl) (tQ rfl (qLd1M 0 Tryd.isAgg3 rfl rfl rfl) (tQ rfl (qLt rfl rfl) (tQ rfl (qMove rfl) ?_))))))))
    refine tCase 17 rfl (fun g17 => ?_) (fun g17 => ?_)
    · refine tNo rfl rfl rfl rfl (tNo rfl rfl rfl rfl (tNo rfl rfl rfl rfl (tQ rfl (qPickT rfl rfl) (tQ rfl (qMove rfl) (tNo rfl rfl rfl rfl (tNo rfl rfl rfl rfl (tNo rfl rfl rfl rfl (tQ rfl (qPickT rfl rfl) (tQ rfl (qMove rfl) (tNo rfl rfl rfl rfl (tNo rfl rfl rfl rfl ?_)))))))))))
      refine tNo rfl rfl rfl rfl (tQ rfl (qPickT rfl rfl) (tEnd (xThen (cIfT rfl (cSeq (cReg (tQ rfl (qAssign rfl) (tEnd (xThen (cRet (xRetThen ?_)))))))))))
      refine xRet1 _ Tryd.results5 rfl fun w' s' => ⟨rfl, s'.toExt (Sub.refl _)⟩
    · refine tGo rfl rfl (tQ rfl (qFieldAddr Tryd.runUnderlying40 rfl Tryd.sizeOf3 rfl rfl rfl) (tGo rfl rfl (tQ rfl (qLd1M 0 Tryd.isAgg3 rfl rfl rfl) (tGo rfl rfl (tQ rfl (qGt rfl rfl) (tQ rfl (qPickF rfl rfl) (tQ rfl (qMove rfl) ?_)))))))
      refine tCase 22 rfl (fun g22 => ?_) (fun g22 => ?_)
      · refine tNo rfl rfl rfl rfl (tNo rfl rfl rfl rfl (tNo rfl rfl rfl rfl (tQ rfl (qPickT rfl rfl) (tQ rfl (qMove rfl) (tNo rfl rfl rfl rfl (tNo rfl rfl rfl rfl (tNo rfl rfl rfl rfl (tQ rfl (qPickT rfl rfl) (tEnd (xThen (cIfT rfl (cSeq (cReg ?_)))))))))))))
        refine tQ rfl (qAssign rfl) (tEnd (xThen (cRet (xRetThen ?_))))
        refine xRet1 _ Tryd.results5 rfl fun w' s' => ⟨rfl, s'.toExt (Sub.refl _)⟩
      · refine tGo rfl rfl (tQ rfl (qFieldAddr Tryd.runUnderlying40 rfl Tryd.sizeOf3 rfl rfl rfl) (tGo rfl rfl (tQ rfl (qLd1M 0 Tryd.isAgg3 rfl rfl rfl) (tGo rfl rfl (tQ rfl (qLt rfl rfl) (tQ rfl (qPickF rfl rfl) (tQ rfl (qMove rfl) ?_)))))))
        refine tCase 27 rfl (fun g27 => ?_) (fun g27 => ?_)
        · refine tNo rfl rfl rfl rfl (tNo rfl rfl rfl rfl (tNo rfl rfl rfl rfl (tQ rfl (qPickT rfl rfl) (tEnd (xThen (cIfT rfl (cSeq (cReg (tQ rfl (qAssign rfl) (tEnd (xThen (cRet (xRetThen ?_)))))))))))))
          refine xRet1 _ Tryd.results5 rfl fun w' s' => ⟨rfl, s'.toExt (Sub.refl _)⟩
        · refine tGo rfl rfl (tQ rfl (qFieldAddr Tryd.runUnderlying40 rfl Tryd.sizeOf3 rfl rfl rfl) (tGo rfl rfl (tQ rfl (qLd1M 0 Tryd.isAgg3 rfl rfl rfl) (tGo rfl rfl (tQ rfl (qGt rfl rfl) (tQ rfl (qPickF rfl rfl) (tEnd (xThen ?_))))))))
          refine cIf rfl (fun c31 => ?_) (fun c31 => ?_)
          · refine cSeq (cReg (tQ rfl (qAssign rfl) (tEnd (xThen (cRet (xRetThen ?_))))))
            refine xRet1 _ Tryd.results5 rfl fun w' s' => ⟨rfl, s'.toExt (Sub.refl _)⟩
          · have hN1' : 1 ≤ N := by simpa using g17
            have hN2' : N ≤ 20000 := by simpa using g22
            have hZ1' : 0 ≤ Z := by simpa using g27
            have hZ2' : Z ≤ 2000000 := by simpa using c31
            clear g17 g22 g27 c31
            obtain ⟨N, rfl⟩ : ∃ q : Nat, N = (q : Int) := ⟨N.toNat, by omega⟩
            obtain ⟨Z, rfl⟩ : ∃ q : Nat, Z = (q : Int) := ⟨Z.toNat, by omega⟩
            have hN1 : 1 ≤ N := by omega
            have hN2 : N ≤ 20000 := by omega
            have hSA := strB_as Z
            refine cSkip (xThen (cSeq (cReg (tQ rfl (qFieldAddr Tryd.runUnderlying40 rfl Tryd.sizeOf3 rfl rfl rfl) (tQ rfl (qLd1M 0 Tryd.isAgg3 rfl rfl rfl) (tMake (bytes := 1) rfl Tryd.runUnderlying41 Tryd.typeInfo5 rfl Tryd.sizeOf5 Tryd.zeroValue5 rfl rfl rfl (k := Z) (c := Z) rfl rfl (Nat.le_refl _) (by omega) (by omega) fun b34 => (tQ rfl (qAssign rfl) (tEnd (xThen (cSeq (cSeq (cReg (tQ rfl (qAssign rfl) (tEnd (xThen (cBlock (cLoop (⟨fun (i : Nat) => [(1, .pointer (some ⟨b1, 0, none⟩)), (3, .slice (some ⟨b34, 0, none⟩) Z Z), (4, .int .i64 i)], fun (i : Nat) => hp w, fun (i : Nat) => [blk b34 ((List.replicate i (97 : Int) ++ List.replicate (Z - i) (0 : Int)).map (Value.int .u8)) 5, blk b1 [.int .i64 N, .int .i64 Z, .int .i64 at_, .bool raw] 40], fun (i : Nat) => i ≤ Z, fun (i : Nat) => Z - i⟩ : LI (Nat)) (loopStart _ 0 (Nat.zero_le _) (le_of ⟨rfl, rfl, rfl, trivial⟩) (fun _ s => by have s : WS _ (blk b34 (zcells [.int .u8 0] Z) 5 :: _) _ _ := s; rw [zcells_one] at s; show WS _ (blk b34 ((List.replicate 0 (97 : Int) ++ List.replicate (Z - 0) (0 : Int)).map (Value.int .u8)) 5 :: _) _ _; rw [show (List.replicate 0 (97 : Int) ++ List.replicate (Z - 0) (0 : Int)).map (Value.int .u8) = List.replicate Z (Value.int .u8 0) by simp]; exact s)) ?_)))))))))))))))))
            rintro i hi
            refine cSeq (cSeq (cReg (tQ rfl (qMove rfl) (tQ rfl (qMove rfl) (tQ rfl (qLen Tryd.runUnderlying41 rfl rfl) (tQ rfl (qLt rfl rfl) (tEnd (xThen ?_))))))))
            refine cIf rfl (fun c38 => ?_) (fun c38 => ?_)
            · refine cSkip (xThen (cSeq (cBlock ?_)))
              have hlt : i < Z := by simp at c38; omega
              refine cReg (tQ rfl (qMove rfl) (tQ rfl (qMove rfl) (tQ rfl (qIdxAddr Tryd.runUnderlying41 Tryd.sizeOf5 rfl rfl rfl (by omega)) (tStore1 0 Tryd.sizeOf5 rfl rfl rfl rfl (by simp; omega) (tEnd (xBlock (xThen (cReg (tQ rfl (qMove rfl) (tQ rfl (qAdd rfl rfl (w64 (by omega) (by omega))) (tQ rfl (qAssign rfl) (tEnd ?_))))))))))))
              refine xRound _ (i + 1) ?_ (by dsimp only; omega) (le_of ⟨rfl, rfl, rfl, trivial⟩) (fun _ s => by have s : WS _ (blk b34 (((List.replicate i (97 : Int) ++ List.replicate (Z - i) (0 : Int)).map (Value.int .u8)).set (0 + i * 1) (.int .u8 97)) 5 :: _) _ _ := s; rw [Nat.zero_add, Nat.mul_one, ← List.map_set, rep_set hlt] at s; exact s)
              exact hlt
            · refine cExit (xExitThen (xExitThen (xExitBlock (xThen (cSeq ?_)))))
              obtain rfl : Z = i := by simp at c38; omega
              have hbb : [blk b34 ((List.replicate Z (97 : Int) ++ List.replicate (Z - Z) (0 : Int)).map (Value.int .u8)) 5, blk b1 [.int .i64 N, .int .i64 Z, .int .i64 at_, .bool raw] 40][0]? = some (blk b34 ((List.replicate Z 97).map (Value.int .u8)) 5) := by rw [Nat.sub_self, List.replicate_zero, List.append_nil]; rfl
              refine cReg (tQ rfl (qMove rfl) (tQ rfl (qStrOf 0 (ns := List.replicate Z 97) Tryd.underlying41 Tryd.underlying5 Tryd.underlying9 rfl hbb (List.length_replicate)) (tQ rfl (qAssign rfl) (tEnd (xThen (cSeq (cReg (tQ rfl (qFieldAddr Tryd.runUnderlying40 rfl Tryd.sizeOf4 rfl rfl rfl) (tQ rfl (qLd1M 1 Tryd.isAgg4 rfl rfl rfl) (tQ rfl (qBuildS build31 (cs := [_, _, _]) rfl rfl) (tAlloc rfl Tryd.zeroValue31 rfl (cs := [_, _, _]) fun b6 => (tStoreN 0 Tryd.sizeOf31 rfl rfl rfl (by simp [Value.oneCell']) rfl (by simp) (tEnd (xThen (cSeq (cSeq (cNilRow 44 5 ?_)))))))))))))))))
              refine cReg (tQ rfl (qAssign rfl) (tEnd (xThen (cBlock (cLoop (⟨fun (⟨k, AI, cI⟩ : Nat × Option Nat × Nat) => [(1, .pointer (some ⟨b1, 0, none⟩)), (5, .string (strB (List.replicate Z 97))), (6, .pointer (some ⟨b6, 0, none⟩)), (7, .int .i64 k)], fun (⟨k, AI, cI⟩ : Nat × Option Nat × Nat) => hp w, fun (⟨k, AI, cI⟩ : Nat × Option Nat × Nat) => [row AI cI 44 5 (rowsF k), blk b6 [rowV AI k cI, .slice none 0 0, .bool raw] 31, blk b1 [.int .i64 N, .int .i64 Z, .int .i64 at_, .bool raw] 40], fun (⟨k, AI, cI⟩ : Nat × Option Nat × Nat) => k ≤ N ∧ (AI = none → cI = 0 ∧ k = 0), fun (⟨k, AI, cI⟩ : Nat × Option Nat × Nat) => N - k⟩ : LI (Nat × Option Nat × Nat)) (loopStart _ (0, none, 0) ⟨Nat.zero_le _, fun _ => ⟨rfl, rfl⟩⟩ (le_of ⟨rfl, rfl, rfl, rfl, trivial⟩) (fun _ s => s.less (.cons_cons _ (.cons_cons _ (.cons _ (.cons_cons _ (.slnil))))))) ?_)))))
              rintro ⟨k, AI, cI⟩ ⟨hk, hAI⟩
              refine cSeq (cSeq (cReg (tQ rfl (qMove rfl) (tQ rfl (qFieldAddr Tryd.runUnderlying40 rfl Tryd.sizeOf3 rfl rfl rfl) (tQ rfl (qLd1M 2 Tryd.isAgg3 rfl rfl rfl) (tQ rfl (qLt rfl rfl) (tEnd (xThen ?_))))))))
              refine cIf rfl (fun c52 => ?_) (fun c52 => ?_)
              · refine cSkip (xThen (cSeq (cBlock ?_)))
                have hlt : k < N := by simp at c52; omega
                refine cReg (tQ rfl (qFieldAddr Tryd.runUnderlying31 rfl Tryd.sizeOf28 rfl rfl rfl) (tQ rfl (qLd1M 1 Tryd.isAgg28 rfl rfl rfl) (tQ rfl (qBuildS build44 (cs := [_, _, _, _, _]) rfl rfl) (tBuildSlice rfl Tryd.runUnderlying28 Tryd.sizeOf44 Tryd.zeroValue44 rfl rfl rfl rfl (cs := [_, _, _, _, _]) fun b58 => (tAppend (bytes := 56) 1 rfl Tryd.runUnderlying28 Tryd.sizeOf44 Tryd.typeInfo44 rfl Tryd.zeroValue44 rfl Tryd.runUnderlying28 rfl rfl rfl rfl rfl hAI (rowsF_len k) rfl (by simp [Value.oneCell']) (fun w' s' => reads_blk 0 rfl rfl s') (by omega) fun A59 c59 h59 => (tQ rfl (qFieldAddr Tryd.runUnderlying31 rfl Tryd.sizeOf28 rfl rfl rfl) (tStore1 2 Tryd.sizeOf28 rfl rfl rfl rfl (by simp) (tEnd (xBlock (xThen (cReg (tQ rfl (qMove rfl) (tQ rfl (qAdd rfl rfl (w64 (by omega) (by omega))) (tQ rfl (qAssign rfl) ?_))))))))))))))
                refine tEnd ?_
                refine xRound _ (k + 1, A59, c59) ?_ (by dsimp only; omega) (le_of ⟨rfl, rfl, rfl, rfl, trivial⟩) (fun _ s => by have s := s.less (.cons _ (.refl _)); have s : WS _ (row A59 c59 44 5 (rowsF k ++ insC) :: _) _ _ := s; rw [rowsF_succ] at s; exact s)
                exact ⟨hlt, h59⟩
              · refine cExit (xExitThen (xExitThen (xExitBlock (xThen (cSeq ?_)))))
                obtain rfl : N = k := by simp at c52; omega
                refine cFreeze 0 rfl fun FJ hSJ hAJ hNJ => ?_
                have hgI := rd_pF (raw := raw) hN2 hAJ hAI
                have hTI := hT.mono hSJ
                refine cReg (tQ rfl (qLdNM 0 Tryd.isAgg31 Tryd.sizeOf31 rfl rfl rfl rfl) (tQ rfl (qMove rfl) (tQ rfl (qFieldAddr Tryd.runUnderlying40 rfl Tryd.sizeOf3 rfl rfl rfl) (tQ rfl (qLd1M 1 Tryd.isAgg3 rfl rfl rfl) (tCallO rfl Tryd.call18 (first := []) (captured := []) rfl rfl (Φ := ResP (backMatch (pF N raw) (strB (List.replicate Z 97)) at_ false)) (fun w' s' => matchO_ (p := pF N raw) s'.sub hTI hgI (Nat.le_refl _) hat (by omega)) fun v C hΦ => ?_)))))
                rw [(pF_ans hSA.2 hN1 hN2).1, hSA.1] at hΦ
                obtain ⟨A1, c1, rfl, hA1, rfl⟩ := hΦ
                refine tQ rfl (qMove rfl) (tQ rfl (qExtract rfl rfl) (tQ rfl (qExtract rfl rfl) (tQ rfl (qAssign rfl) (tQ rfl (qAssign rfl) (tEnd (xThen (cSeq (cReg (tQ rfl (qLdNM 1 Tryd.isAgg31 Tryd.sizeOf31 rfl rfl rfl rfl) (tQ rfl (qMove rfl) (tQ rfl (qFieldAddr Tryd.runUnderlying40 rfl Tryd.sizeOf3 rfl rfl rfl) (tQ rfl (qLd1M 2 Tryd.isAgg3 rfl rfl rfl) (tCallO rfl Tryd.call20 (first := []) (captured := []) rfl rfl (Φ := ResP (backFrom (pF N raw) (strB (List.replicate Z 97)) at_ true)) (fun w' s' => fromO_ (p := pF N raw) s'.sub hTI hgI (Nat.le_refl _) hat (by omega)) fun v C hΦ => ?_)))))))))))))
                rw [(pF_ans hSA.2 hN1 hN2).2, hSA.1] at hΦ
                obtain ⟨A2, c2, rfl, hA2, rfl⟩ := hΦ
                refine tQ rfl (qMove rfl) (tQ rfl (qExtract rfl rfl) (tQ rfl (qExtract rfl rfl) (tQ rfl (qAssign rfl) (tQ rfl (qAssign rfl) (tEnd (xThen (cSeq (cSeq (cReg (tQ rfl (qMove rfl) (tQ rfl (qLen Tryd.runUnderlying24 rfl rfl) (tQ rfl (qIs (qNe rfl rfl) rfl) (tQ rfl (qMove rfl) (tGo rfl rfl (tQ rfl (qMove rfl) ?_)))))))))))))))
                refine tGo rfl rfl (tQ rfl (qLen Tryd.runUnderlying24 rfl rfl) (tGo rfl rfl (tQ rfl (qIs (qNe rfl rfl) rfl) (tQ rfl (qPickF rfl rfl) (tQ rfl (qMove rfl) (tGo rfl rfl (tQ rfl (qMove rfl) (tGo rfl rfl (tQ rfl (qMove rfl) (tGo rfl rfl (tQ rfl (qIs (qNe rfl rfl) (bne_self_eq_false _)) ?_)))))))))))
                refine tQ rfl (qPickF rfl rfl) (tEnd (xThen (cIfF rfl (cSkip (xThen (cSeq (cSeq (cReg (tQ rfl (qFieldAddr Tryd.runUnderlying40 rfl Tryd.sizeOf3 rfl rfl rfl) (tQ rfl (qLd1M 3 Tryd.isAgg3 rfl rfl rfl) (tQ rfl (qLt rfl rfl) (tQ rfl (qMove rfl) ?_))))))))))))
                refine tCase 93 rfl (fun g93 => ?_) (fun g93 => ?_)
                · refine tNo rfl rfl rfl rfl (tNo rfl rfl rfl rfl (tNo rfl rfl rfl rfl (tNo rfl rfl rfl rfl (tNo rfl rfl rfl rfl (tQ rfl (qPickT rfl rfl) (tEnd (xThen (cIfT rfl (cSeq (cReg (tQ rfl (qMove rfl) (tQ rfl (qEq rfl rfl) (tQ rfl (qAssign rfl) ?_)))))))))))))
                  refine tEnd (xThen (cRet (xRetThen ?_)))
                  refine xRet1 _ Tryd.results5 rfl fun w' s' => ⟨congrArg Value.bool ?_, s'.toExt hSJ⟩
                  rw [beq_iff_eq]
                  unfold largeE
                  first
                    | exact if_pos (.inl (by simpa using g93))
                    | exact if_pos (.inr (by simpa using c99))
                · refine tGo rfl rfl (tQ rfl (qFieldAddr Tryd.runUnderlying40 rfl Tryd.sizeOf3 rfl rfl rfl) (tGo rfl rfl (tQ rfl (qLd1M 3 Tryd.isAgg3 rfl rfl rfl) (tGo rfl rfl (tQ rfl (qFieldAddr Tryd.runUnderlying40 rfl Tryd.sizeOf3 rfl rfl rfl) (tGo rfl rfl (tQ rfl (qLd1M 3 Tryd.isAgg3 rfl rfl rfl) (tGo rfl rfl (tQ rfl (qGt rfl rfl) (tQ rfl (qPickF rfl rfl) (tEnd (xThen ?_))))))))))))
                  refine cIf rfl (fun c99 => ?_) (fun c99 => ?_)
                  · refine cSeq (cReg (tQ rfl (qMove rfl) (tQ rfl (qEq rfl rfl) (tQ rfl (qAssign rfl) (tEnd (xThen (cRet (xRetThen ?_))))))))
                    refine xRet1 _ Tryd.results5 rfl fun w' s' => ⟨congrArg Value.bool ?_, s'.toExt hSJ⟩
                    rw [beq_iff_eq]
                    unfold largeE
                    first
                      | exact if_pos (.inl (by simpa using g93))
                      | exact if_pos (.inr (by simpa using c99))
                  · refine cSkip (xThen (cSeq (cSeq ?_)))
                    have hb1 : 0 ≤ at_ := by simpa using g93
                    have hb2 : at_ ≤ (Z : Int) := by simpa using c99
                    have m1 : 0 ≤ (N : Int) * ((Z : Int) - at_ + 1) := Int.mul_nonneg (by omega) (by omega)
                    have m2 : (N : Int) * ((Z : Int) - at_ + 1) ≤ 20000 * 2000001 := Int.mul_le_mul (by omega) (by omega) (by omega) (by omega)
                    refine cReg (tQ rfl (qFieldAddr Tryd.runUnderlying40 rfl Tryd.sizeOf3 rfl rfl rfl) (tQ rfl (qLd1M 3 Tryd.isAgg3 rfl rfl rfl) (tQ rfl (qFieldAddr Tryd.runUnderlying40 rfl Tryd.sizeOf3 rfl rfl rfl) (tQ rfl (qLd1M 3 Tryd.isAgg3 rfl rfl rfl) (tQ rfl (qFieldAddr Tryd.runUnderlying40 rfl Tryd.sizeOf3 rfl rfl rfl) (tQ rfl (qLd1M 3 Tryd.isAgg3 rfl rfl rfl) (tQ rfl (qSub rfl rfl (w64 (by omega) (by omega))) (tQ rfl (qAdd rfl rfl (w64 (by omega) (by omega))) (tQ rfl (qMul rfl rfl (w64 (by omega) (by omega))) (tQ rfl (qGt rfl rfl) (tEnd (xThen ?_))))))))))))
                    refine cIf rfl (fun c111 => ?_) (fun c111 => ?_)
                    · refine cSeq (cReg (tQ rfl (qMove rfl) (tQ rfl (qEq rfl rfl) (tQ rfl (qAssign rfl) (tEnd (xThen (cRet (xRetThen ?_))))))))
                      refine xRet1 _ Tryd.results5 rfl fun w' s' => ⟨congrArg Value.bool ?_, s'.toExt hSJ⟩
                      rw [beq_iff_eq]
                      unfold largeE
                      rw [if_neg (by omega), if_pos (by simpa using c111)]
                    · refine cSkip (xThen (cSeq (cReg (tQ rfl (qMove rfl) (tQ rfl (qEq rfl rfl) (tQ rfl (qAssign rfl) (tEnd (xThen (cRet ?_)))))))))
                      refine xRet1 _ Tryd.results5 rfl fun w' s' => ⟨congrArg Value.bool ?_, s'.toExt hSJ⟩
                      rw [beq_iff_eq]
                      unfold largeE
                      rw [if_neg (by omega), if_neg (by simpa using c111)]

end Go.V
