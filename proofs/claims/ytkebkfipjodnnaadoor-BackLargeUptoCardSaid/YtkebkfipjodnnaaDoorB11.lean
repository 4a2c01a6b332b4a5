/-
  Lemmas of this claim's own, part 12: contracts of the functions that the statement reaches, and the plain facts behind them.
-/
import Derived.Test.YtkebkfipjodnnaaDoorB10
set_option linter.unusedVariables false
set_option linter.unusedSimpArgs false
namespace Go.V
/-! ### What From and Match answer, where the gate is open or not -/
theorem back_bad {p : Prg} {s : ByteArray} {at_ : Int} {l : Bool} (h : gate p s at_ ≠ 0) : backFrom p s at_ l = ([], gate p s at_) ∧ backMatch p s at_ l = ([], gate p s at_) := ⟨ans_bad h, ans_bad h⟩
theorem gate_vals (p : Prg) (s : ByteArray) (at_ : Int) : gate p s at_ = 0 ∨ gate p s at_ = 1 ∨ gate p s at_ = 3 ∨ gate p s at_ = 6 := by
  unfold gate
  repeat' split
  all_goals simp
theorem ans_snd {r : Option (List Int)} : (ansOf 0 r).2 = 0 ∨ (ansOf 0 r).2 = 7 := by
  cases r with
  | none => exact .inr rfl
  | some m => exact .inl rfl
theorem back_open {p : Prg} {s : ByteArray} {at_ : Int} {l : Bool} (hc : checkOk p) (hb : brdM p.raw s at_) : ((backFrom p s at_ l).2 ≠ 1 ∧ (backFrom p s at_ l).2 ≠ 3) ∧ (backMatch p s at_ l).2 ≠ 1 ∧ (backMatch p s at_ l).2 ≠ 3 := by
  have hg : gate p s at_ = 0 ∨ gate p s at_ = 6 := by
    by_cases h : 1048576 < p.insts.length * ((mP p.raw s).length - firstOf (mP p.raw s) at_)
    · exact .inr (gate_large hc hb h)
    · exact .inl (gate_good hc hb h)
  have key : ∀ r, (ansOf (gate p s at_) r).2 ≠ 1 ∧ (ansOf (gate p s at_) r).2 ≠ 3 := by
    intro r
    rcases hg with h | h
    · rw [h]
      rcases ans_snd (r := r) with h | h <;> rw [h] <;> decide
    · rw [h, ans_bad (by decide)]; decide
  exact ⟨key _, key _⟩
/-! ### Match, from the first border with a hit -/
theorem first_at {p : Prg} {s : ByteArray} {l : Bool} {m : List Int} : ∀ (k f i : Nat), f ≤ i → i < f + k → (∀ j, f ≤ j → j < i → hitsOf p s j = []) → Bst l (hitsOf p s i) = some m → firstHit p s l k f = some m
  | 0, f, i, h1, h2, _, _ => by omega
  | k + 1, f, i, h1, h2, hn, hm => by
    rcases Nat.lt_or_ge f i with h | h
    · rw [first_none (by omega) (bst_none.2 (hn f (Nat.le_refl _) h))]
      exact first_at k (f + 1) i h (by omega) (fun j a b => hn j (by omega) b) hm
    · obtain rfl : f = i := by omega
      exact first_some (by omega) hm
theorem first_no {p : Prg} {s : ByteArray} {l : Bool} : ∀ (k f : Nat), (∀ j, f ≤ j → j < f + k → hitsOf p s j = []) → firstHit p s l k f = none
  | 0, _, _ => rfl
  | k + 1, f, h => by
    rw [first_none (by omega) (bst_none.2 (h f (Nat.le_refl _) (by omega)))]
    exact first_no k (f + 1) fun j a b => h j (by omega) (by omega)
theorem first_iff {p : Prg} {s : ByteArray} : ∀ (k f : Nat), firstHit p s false k f = none ↔ firstHit p s true k f = none
  | 0, _ => Iff.rfl
  | k + 1, f => by
    cases h : hitsOf p s f with
    | nil =>
      have h1 : ∀ l, Bst l (hitsOf p s f) = none := fun l => bst_none.2 h
      rw [first_none (by omega) (h1 false), first_none (by omega) (h1 true)]
      exact first_iff k (f + 1)
    | cons a l =>
      have h1 : ∀ b, Bst b (hitsOf p s f) ≠ none := fun b e => by rw [bst_none.1 e] at h; cases h
      constructor
      · intro e
        cases hb : Bst false (hitsOf p s f) with
        | none => exact absurd hb (h1 _)
        | some m => rw [first_some (by omega) hb] at e; cases e
      · intro e
        cases hb : Bst true (hitsOf p s f) with
        | none => exact absurd hb (h1 _)
        | some m => rw [first_some (by omega) hb] at e; cases e
theorem first_snd {p : Prg} {s : ByteArray} {at_ : Int} (h : gate p s at_ = 0) : (backMatch p s at_ false).2 = (backMatch p s at_ true).2 := by
  unfold backMatch
  rw [h]
  have := first_iff (p := p) (s := s) ((mP p.raw s).length - firstOf (mP p.raw s) at_) (firstOf (mP p.raw s) at_)
  cases h1 : firstHit p s false ((mP p.raw s).length - firstOf (mP p.raw s) at_) (firstOf (mP p.raw s) at_) with
  | none => rw [this.1 h1]
  | some m =>
    cases h2 : firstHit p s true ((mP p.raw s).length - firstOf (mP p.raw s) at_) (firstOf (mP p.raw s) at_) with
    | none => rw [this.2 h2] at h1; cases h1
    | some m' => rfl
/-- At a border further on the gate is as open. -/
theorem gate_on {p : Prg} {s : ByteArray} {a b : Int} (h : gate p s a = 0) (hab : a ≤ b) (hb : brdM p.raw s b) : gate p s b = 0 ∧ firstOf (mP p.raw s) a ≤ firstOf (mP p.raw s) b := by
  obtain ⟨hc, ha, hl⟩ := gate_ok h
  have fa := firstOf_lt (mem_place ha)
  have fb := firstOf_lt (mem_place hb)
  have hle : firstOf (mP p.raw s) a ≤ firstOf (mP p.raw s) b := by
    rcases Nat.lt_or_ge (firstOf (mP p.raw s) b) (firstOf (mP p.raw s) a) with h' | h'
    · have := place_lt h' fa.1
      omega
    · exact h'
  refine ⟨gate_good hc hb ?_, hle⟩
  have := Nat.mul_le_mul_left p.insts.length (show (mP p.raw s).length - firstOf (mP p.raw s) b ≤ (mP p.raw s).length - firstOf (mP p.raw s) a by omega)
  omega
/-- No hit from a border below b. -/
def noneTo (p : Prg) (s : ByteArray) (a b : Int) : Prop := ∀ i, firstOf (mP p.raw s) a ≤ i → i < (mP p.raw s).length → gZ (mP p.raw s) i < b → hitsOf p s i = []
theorem noneTo_start {p : Prg} {s : ByteArray} {a : Int} (h : brdM p.raw s a) : noneTo p s a a := fun i hi hl hlt => by
  have fa := firstOf_lt (mem_place h)
  have := place_le hi hl
  omega
theorem noneTo_skip {p : Prg} {s : ByteArray} {a b : Int} (h : noneTo p s a b) (hb : ¬ brdM p.raw s b) : noneTo p s a (b + 1) := fun i hi hl hlt => by
  refine h i hi hl ?_
  obtain ⟨q, h1, h2, h3⟩ := place_nat hl
  have : gZ (mP p.raw s) i ≠ b := fun e => hb ⟨by omega, by omega, fun hr => by rw [← e, h1]; exact h3 hr⟩
  omega
theorem noneTo_next {p : Prg} {s : ByteArray} {a b : Int} (h : noneTo p s a b) (hn : hitsOf p s (firstOf (mP p.raw s) b) = []) : noneTo p s a (b + 1) := fun i hi hl hlt => by
  by_cases e : gZ (mP p.raw s) i = b
  · rw [← e, first_of hl] at hn; exact hn
  · exact h i hi hl (by omega)
theorem noneTo_end {p : Prg} {s : ByteArray} {a : Int} {l : Bool} (hg : gate p s a = 0) (h : noneTo p s a ((s.size : Int) + 1)) : backMatch p s a l = ([], 7) := by
  obtain ⟨_, ha, _⟩ := gate_ok hg
  have fa := firstOf_lt (mem_place ha)
  refine ans_none hg (first_no _ _ fun j h1 h2 => h j h1 (by omega) ?_)
  obtain ⟨q, e1, e2, _⟩ := place_nat (raw := p.raw) (s := s) (i := j) (by omega)
  omega
/-- The first border with a hit: what From and Match answer there. -/
theorem found {p : Prg} {s : ByteArray} {a b : Int} (hg : gate p s a = 0) (hab : a ≤ b) (hb : brdM p.raw s b) (h : noneTo p s a b) (hn : (backFrom p s b false).2 ≠ 7) : ∃ m n, backFrom p s b false = (m, 0) ∧ backFrom p s b true = (n, 0) ∧ backMatch p s a false = (m, 0) ∧ backMatch p s a true = (n, 0) ∧
    HitI p s (firstOf (mP p.raw s) b) m ∧ HitI p s (firstOf (mP p.raw s) b) n ∧ gZ m 1 ≤ gZ n 1 := by
  obtain ⟨hgb, hle⟩ := gate_on hg hab hb
  obtain ⟨hc, _, _⟩ := gate_ok hg
  have fb := firstOf_lt (mem_place hb)
  have hne : hitsOf p s (firstOf (mP p.raw s) b) ≠ [] := fun e => hn (by
    unfold backFrom
    rw [hgb, bst_none.2 e]; rfl)
  obtain ⟨m, hm⟩ : ∃ m, Bst false (hitsOf p s (firstOf (mP p.raw s) b)) = some m := by
    cases hh : Bst false (hitsOf p s (firstOf (mP p.raw s) b)) with
    | none => exact absurd (bst_none.1 hh) hne
    | some m => exact ⟨m, rfl⟩
  obtain ⟨n, hn2⟩ : ∃ m, Bst true (hitsOf p s (firstOf (mP p.raw s) b)) = some m := by
    cases hh : Bst true (hitsOf p s (firstOf (mP p.raw s) b)) with
    | none => exact absurd (bst_none.1 hh) hne
    | some m => exact ⟨m, rfl⟩
  have hno : ∀ j, firstOf (mP p.raw s) a ≤ j → j < firstOf (mP p.raw s) b → hitsOf p s j = [] := fun j h1 h2 => h j h1 (by omega) (by
    have := place_lt h2 fb.1
    omega)
  have hh := hits_ok hc fb.1
  exact ⟨m, n, ans_some hgb hm, ans_some hgb hn2, ans_some hg (first_at _ _ _ hle (by omega) hno hm), ans_some hg (first_at _ _ _ hle (by omega) hno hn2), hh m (bst_mem hm), hh n (bst_mem hn2), (upd_ge _ none n hn2).1 m (bst_mem hm)⟩
theorem from_snd {p : Prg} {s : ByteArray} {b : Int} (hg : gate p s b = 0) : (backFrom p s b false).2 = (backFrom p s b true).2 ∧ ((backFrom p s b false).2 = 7 → hitsOf p s (firstOf (mP p.raw s) b) = []) := by
  unfold backFrom
  rw [hg]
  cases h : hitsOf p s (firstOf (mP p.raw s) b) with
  | nil => exact ⟨by rw [bst_none.2 rfl, bst_none.2 rfl], fun _ => rfl⟩
  | cons a l =>
    have h1 : ∀ c, ∃ m, Bst c (a :: l) = some m := fun c => by
      cases hb : Bst c (a :: l) with
      | none => have := bst_none.1 hb; cases this
      | some m => exact ⟨m, rfl⟩
    obtain ⟨m, hm⟩ := h1 false
    obtain ⟨n, hn⟩ := h1 true
    rw [hm, hn]
    exact ⟨rfl, fun e => by cases e⟩
theorem slOk_at {sl : List Int} {top : Int} (h : slOk sl top) {i : Nat} (hi : i < sl.length) : gZ sl i = -1 ∨ (0 ≤ gZ sl i ∧ gZ sl i ≤ top) := h _ (gZ_at hi ▸ List.getElem_mem hi)
end Go.V
namespace Go.V
open Go.Proofs
set_option linter.unusedVariables false
set_option linter.unusedSimpArgs false

theorem sound_ {F : Hp} {w : World} {A B : Option Addr} {n m cA cB : Nat} {p : Prg} {s : ByteArray} {at_ : Int} (hF : Sub F (hp w)) (hT : T F) (hg : RdG F A n B m p) (hc : m ≤ cB) (hat : I64 at_) (hsz : s.size ≤ 1048576) :
    Calls Tryd.prog 17 [.agg #[.slice A n cA, .slice B m cB, .bool p.raw], .string s, .int .i64 at_].toArray w (fun e w' => e = .returned (.bool (decide (gate p s at_ = 0))) ∧ Ext w w') := by
  replace hT := hT.mono hF
  replace hg := hg.mono hF
  refine enter' 24 Tryd.func17 Tryd.ntmps17 rfl rfl (cSeq (cReg (tBox rfl rfl rfl (cs := [_, _, _]) fun b3 => (tQ rfl (qAssign rfl) (tEnd (xThen (cSeq (cReg (tQ rfl (qLdNM 0 Tryd.isAgg31 Tryd.sizeOf31 rfl rfl rfl rfl) (tCallQ rfl Tryd.call21 (first := []) (captured := []) rfl rfl (fun w' s' => check12 s'.sub hg hc) (tQ rfl (qEq rfl rfl) (tQ rfl (qMove rfl) ?_))))))))))))
  refine tCase 10 rfl (fun g10 => ?_) (fun g10 => ?_)
  · have hck : checkOk p := by
      refine Decidable.byContradiction fun h => ?_
      rw [checkE_bad h] at g10; simp at g10
    refine tGo rfl rfl (tQ rfl (qMove rfl) (tGo rfl rfl (tQ rfl (qMove rfl) (tGo rfl rfl (tQ rfl (qFieldAddr Tryd.runUnderlying31 rfl Tryd.sizeOf4 rfl rfl rfl) (tGo rfl rfl (tQ rfl (qLd1M 0 Tryd.isAgg4 rfl rfl rfl) (tGo rfl rfl (tCallQ rfl Tryd.call19 (first := []) (captured := []) rfl rfl (fun w' s' => border12_ s'.sub hat (by omega)) (tQ rfl (qPickT rfl rfl) (tQ rfl (qMove rfl) ?_)))))))))))
    refine tCase 17 rfl (fun g17 => ?_) (fun g17 => ?_)
    · have hbr : brdM p.raw s at_ := by simpa using g17
      refine tGo rfl rfl (tQ rfl (qLdNM 0 Tryd.isAgg31 Tryd.sizeOf31 rfl rfl rfl rfl) (tGo rfl rfl (tQ rfl (qMove rfl) (tGo rfl rfl (tQ rfl (qMove rfl) (tGo rfl rfl (tCallQ rfl Tryd.call47 (first := []) (captured := []) rfl rfl (fun w' s' => large_ s'.sub hg.insts (by have := hck.1.2; rw [hg.insts.len] at this; exact this) hbr (by omega)) (tGo rfl rfl (tQ rfl (qNot rfl) (tQ rfl (qPickT rfl rfl) (tQ rfl (qAssign rfl) ?_)))))))))))
      refine tEnd (xThen (cRet ?_))
      refine xRet1 _ Tryd.results17 rfl fun w' s' => ⟨congrArg Value.bool ?_, s'.toExt (Sub.refl _)⟩
      first
        | (rw [hgt]; rfl)
        | (by_cases hl : 1048576 < p.insts.length * ((mP p.raw s).length - firstOf (mP p.raw s) at_)
           · rw [gate_large hck hbr hl]; simp [hl]
           · rw [gate_good hck hbr hl]; simp [hl])
    · have hgt : gate p s at_ = 3 := gate_range hck (by simpa using g17)
      refine tNo rfl rfl rfl rfl (tNo rfl rfl rfl rfl (tNo rfl rfl rfl rfl (tNo rfl rfl rfl rfl (tNo rfl rfl rfl rfl (tQ rfl (qPickF rfl rfl) (tQ rfl (qAssign rfl) (tEnd (xThen (cRet ?_)))))))))
      refine xRet1 _ Tryd.results17 rfl fun w' s' => ⟨congrArg Value.bool ?_, s'.toExt (Sub.refl _)⟩
      first
        | (rw [hgt]; rfl)
        | (by_cases hl : 1048576 < p.insts.length * ((mP p.raw s).length - firstOf (mP p.raw s) at_)
           · rw [gate_large hck hbr hl]; simp [hl]
           · rw [gate_good hck hbr hl]; simp [hl])
  · have hgt : gate p s at_ = 1 := gate_form fun h => by rw [checkE_ok h] at g10; simp at g10
    refine tNo rfl rfl rfl rfl (tNo rfl rfl rfl rfl (tNo rfl rfl rfl rfl (tNo rfl rfl rfl rfl (tNo rfl rfl rfl rfl (tQ rfl (qPickF rfl rfl) (tQ rfl (qMove rfl) (tNo rfl rfl rfl rfl (tNo rfl rfl rfl rfl (tNo rfl rfl rfl rfl (tNo rfl rfl rfl rfl (tNo rfl rfl rfl rfl ?_)))))))))))
    refine tQ rfl (qPickF rfl rfl) (tQ rfl (qAssign rfl) (tEnd (xThen (cRet ?_))))
    refine xRet1 _ Tryd.results17 rfl fun w' s' => ⟨congrArg Value.bool ?_, s'.toExt (Sub.refl _)⟩
    first
      | (rw [hgt]; rfl)
      | (by_cases hl : 1048576 < p.insts.length * ((mP p.raw s).length - firstOf (mP p.raw s) at_)
         · rw [gate_large hck hbr hl]; simp [hl]
         · rw [gate_good hck hbr hl]; simp [hl])

theorem backBorders_ {F : Hp} {w : World} {A B : Option Addr} {n m cA cB : Nat} {p : Prg} {s : ByteArray} {at_ : Int} (hF : Sub F (hp w)) (hT : T F) (hg : RdG F A n B m p) (hc : m ≤ cB) (hat : I64 at_) (hsz : s.size ≤ 1048576) :
    Calls Tryd.prog 6 [.agg #[.slice A n cA, .slice B m cB, .bool p.raw], .string s, .int .i64 at_].toArray w (fun e w' => e = .returned (.bool true) ∧ Ext w w') := by
  replace hT := hT.mono hF
  replace hg := hg.mono hF
  refine Calls.mono (enterG (R := fun v w' => v = .bool true ∧ Ext w w') 95 Tryd.func6 Tryd.ntmps6 rfl rfl (WS.start w) ?_) (fun e w' ⟨v, h1, h2, h3⟩ => ⟨by rw [h1, h2], h3⟩)
  refine cSeq (cReg (tBox rfl rfl rfl (cs := [_, _, _]) fun b3 => (tQ rfl (qAssign rfl) (tEnd (xThen (cSeq (cSeq (cReg (tCallQ rfl Tryd.call13 (first := []) (captured := []) rfl rfl (fun w' s' => wakes_ s'.sub hT) (tQ rfl (qNot rfl) (tEnd (xThen ?_))))))))))))
  refine cIf rfl (fun c12 => ?_) (fun c12 => ?_)
  · refine cSeq (cReg (tQ rfl (qAssign rfl) (tEnd (xThen (cRet (xRetThen ?_))))))
    exfalso
    simp at c12
  · refine cSkip (xThen (cSeq (cReg (tQ rfl (qLdNM 0 Tryd.isAgg31 Tryd.sizeOf31 rfl rfl rfl rfl) (tQ rfl (qMove rfl) (tQ rfl (qMove rfl) (tCallO rfl Tryd.call18 (first := []) (captured := []) rfl rfl (Φ := ResP (backMatch p s at_ false)) (fun w' s' => matchO_ s'.sub hT hg hc hat (by omega)) fun v C hΦ => ?_)))))))
    obtain ⟨A1, c1, rfl, hA1, rfl⟩ := hΦ
    refine tQ rfl (qMove rfl) (tQ rfl (qExtract rfl rfl) (tQ rfl (qExtract rfl rfl) (tQ rfl (qAssign rfl) (tQ rfl (qAssign rfl) (tEnd (xThen (cSeq (cReg (tQ rfl (qLdNM 1 Tryd.isAgg31 Tryd.sizeOf31 rfl rfl rfl rfl) (tQ rfl (qMove rfl) (tQ rfl (qMove rfl) (tCallO rfl Tryd.call20 (first := []) (captured := []) rfl rfl (Φ := ResP (backFrom p s at_ true)) (fun w' s' => fromO_ s'.sub hT hg hc hat (by omega)) fun v C hΦ => ?_))))))))))))
    obtain ⟨A2, c2, rfl, hA2, rfl⟩ := hΦ
    refine tQ rfl (qMove rfl) (tQ rfl (qExtract rfl rfl) (tQ rfl (qExtract rfl rfl) (tQ rfl (qAssign rfl) (tQ rfl (qAssign rfl) (tEnd (xThen (cSeq (cSeq (cReg (tQ rfl (qLdNM 2 Tryd.isAgg31 Tryd.sizeOf31 rfl rfl rfl rfl) (tCallQ rfl Tryd.call21 (first := []) (captured := []) rfl rfl (fun w' s' => check12 s'.sub hg hc) (tQ rfl (qNe rfl rfl) (tEnd (xThen ?_))))))))))))))
    refine cIf rfl (fun c29 => ?_) (fun c29 => ?_)
    · have hn : ¬ checkOk p := fun h => by rw [checkE_ok h] at c29; simp at c29
      have hg1 := gate_form (s := s) (at_ := at_) hn
      have hb := back_bad (l := false) (show gate p s at_ ≠ 0 by rw [hg1]; decide)
      have hb2 := back_bad (l := true) (show gate p s at_ ≠ 0 by rw [hg1]; decide)
      rw [hg1] at hb hb2
      rw [hb.2, hb2.1]
      refine cSeq (cReg (tQ rfl (qMove rfl) (tQ rfl (qEq rfl rfl) (tQ rfl (qMove rfl) ?_))))
      refine tCase 32 rfl (fun g32 => ?_) (fun g32 => ?_)
      · refine tGo rfl rfl (tQ rfl (qMove rfl) (tGo rfl rfl (tQ rfl (qEq rfl rfl) (tQ rfl (qPickT rfl rfl) (tQ rfl (qMove rfl) ?_)))))
        refine tCase 36 rfl (fun g36 => ?_) (fun g36 => ?_)
        · refine tGo rfl rfl (tQ rfl (qMove rfl) (tGo rfl rfl (tQ rfl (qLen Tryd.runUnderlying24 rfl rfl) (tGo rfl rfl (tQ rfl (qEq rfl rfl) (tQ rfl (qPickT rfl rfl) (tQ rfl (qMove rfl) ?_)))))))
          refine tCase 41 rfl (fun g41 => ?_) (fun g41 => ?_)
          · refine tGo rfl rfl (tQ rfl (qMove rfl) (tGo rfl rfl (tQ rfl (qLen Tryd.runUnderlying24 rfl rfl) (tGo rfl rfl (tQ rfl (qEq rfl rfl) (tQ rfl (qPickT rfl rfl) (tQ rfl (qAssign rfl) (tEnd (xThen (cRet (xRetThen ?_)))))))))))
            refine xRet1 _ Tryd.results6 rfl fun w' s' => ⟨?_, s'.toExt (Sub.refl _)⟩
            first
              | rfl
              | (exfalso; simp at *; done)
              | (exfalso; simp_all; done)
              | (simp_all; done)
          · refine tNo rfl rfl rfl rfl (tNo rfl rfl rfl rfl (tNo rfl rfl rfl rfl (tQ rfl (qPickF rfl rfl) (tQ rfl (qAssign rfl) (tEnd (xThen (cRet (xRetThen ?_))))))))
            refine xRet1 _ Tryd.results6 rfl fun w' s' => ⟨?_, s'.toExt (Sub.refl _)⟩
            first
              | rfl
              | (exfalso; simp at *; done)
              | (exfalso; simp_all; done)
              | (simp_all; done)
        · refine tNo rfl rfl rfl rfl (tNo rfl rfl rfl rfl (tNo rfl rfl rfl rfl (tQ rfl (qPickF rfl rfl) (tQ rfl (qMove rfl) (tNo rfl rfl rfl rfl (tNo rfl rfl rfl rfl (tNo rfl rfl rfl rfl (tQ rfl (qPickF rfl rfl) (tQ rfl (qAssign rfl) (tEnd (xThen (cRet (xRetThen ?_)))))))))))))
          refine xRet1 _ Tryd.results6 rfl fun w' s' => ⟨?_, s'.toExt (Sub.refl _)⟩
          first
            | rfl
            | (exfalso; simp at *; done)
            | (exfalso; simp_all; done)
            | (simp_all; done)
      · refine tNo rfl rfl rfl rfl (tNo rfl rfl rfl rfl (tQ rfl (qPickF rfl rfl) (tQ rfl (qMove rfl) (tNo rfl rfl rfl rfl (tNo rfl rfl rfl rfl (tNo rfl rfl rfl rfl (tQ rfl (qPickF rfl rfl) (tQ rfl (qMove rfl) (tNo rfl rfl rfl rfl (tNo rfl rfl rfl rfl (tNo rfl rfl rfl rfl ?_)))))))))))
        refine tQ rfl (qPickF rfl rfl) (tQ rfl (qAssign rfl) (tEnd (xThen (cRet (xRetThen ?_)))))
        refine xRet1 _ Tryd.results6 rfl fun w' s' => ⟨?_, s'.toExt (Sub.refl _)⟩
        first
          | rfl
          | (exfalso; simp at *; done)
          | (exfalso; simp_all; done)
          | (simp_all; done)
    · have hck : checkOk p := by
        refine Decidable.byContradiction fun h => ?_
        rw [checkE_bad h] at c29; simp at c29
      refine cSkip (xThen ?_)
      refine cCut (⟨fun (u : Unit) => [(8, .int .i64 (backMatch p s at_ false).2), (10, .int .i64 (backFrom p s at_ true).2)], fun (u : Unit) => hp w, fun (u : Unit) => [], fun (u : Unit) => brdM p.raw s at_, fun (u : Unit) => 0⟩ : LI (Unit)) ?_ ?_
      · refine cSeq (cReg (tQ rfl (qMove rfl) (tQ rfl (qLt rfl rfl) (tQ rfl (qMove rfl) ?_))))
        refine tCase 48 rfl (fun g48 => ?_) (fun g48 => ?_)
        · refine tNo rfl rfl rfl rfl (tNo rfl rfl rfl rfl (tNo rfl rfl rfl rfl (tNo rfl rfl rfl rfl (tQ rfl (qPickT rfl rfl) (tQ rfl (qMove rfl) (tNo rfl rfl rfl rfl (tNo rfl rfl rfl rfl (tNo rfl rfl rfl rfl (tNo rfl rfl rfl rfl (tNoU rfl rfl rfl (tNoU rfl rfl rfl ?_)))))))))))
          refine tNoU rfl rfl rfl (tNoU rfl rfl rfl (tNo rfl rfl rfl rfl (tQ rfl (qPickT rfl rfl) (tEnd (xThen (cIfT rfl (cSeq ?_)))))))
          have hnb : ¬ brdM p.raw s at_ := by
            unfold brdM
            rintro ⟨h1, h2, h3⟩
            simp_all <;> omega
          have hg1 := gate_range hck hnb
          have hb := back_bad (l := false) (show gate p s at_ ≠ 0 by rw [hg1]; decide)
          have hb2 := back_bad (l := true) (show gate p s at_ ≠ 0 by rw [hg1]; decide)
          rw [hg1] at hb hb2
          rw [hb.2, hb2.1]
          refine cReg (tQ rfl (qMove rfl) (tQ rfl (qEq rfl rfl) (tQ rfl (qMove rfl) ?_)))
          refine tCase 67 rfl (fun g67 => ?_) (fun g67 => ?_)
          · refine tGo rfl rfl (tQ rfl (qMove rfl) (tGo rfl rfl (tQ rfl (qEq rfl rfl) (tQ rfl (qPickT rfl rfl) (tQ rfl (qMove rfl) ?_)))))
            refine tCase 71 rfl (fun g71 => ?_) (fun g71 => ?_)
            · refine tGo rfl rfl (tQ rfl (qMove rfl) (tGo rfl rfl (tQ rfl (qLen Tryd.runUnderlying24 rfl rfl) (tGo rfl rfl (tQ rfl (qEq rfl rfl) (tQ rfl (qPickT rfl rfl) (tQ rfl (qMove rfl) ?_)))))))
              refine tCase 76 rfl (fun g76 => ?_) (fun g76 => ?_)
              · refine tGo rfl rfl (tQ rfl (qMove rfl) (tGo rfl rfl (tQ rfl (qLen Tryd.runUnderlying24 rfl rfl) (tGo rfl rfl (tQ rfl (qEq rfl rfl) (tQ rfl (qPickT rfl rfl) (tQ rfl (qAssign rfl) (tEnd (xThen (cRet (xRetThen ?_)))))))))))
                refine xRet1 _ Tryd.results6 rfl fun w' s' => ⟨?_, s'.toExt (Sub.refl _)⟩
                first
                  | rfl
                  | (exfalso; simp at *; done)
                  | (exfalso; simp_all; done)
                  | (simp_all; done)
              · refine tNo rfl rfl rfl rfl (tNo rfl rfl rfl rfl (tNo rfl rfl rfl rfl (tQ rfl (qPickF rfl rfl) (tQ rfl (qAssign rfl) (tEnd (xThen (cRet (xRetThen ?_))))))))
                refine xRet1 _ Tryd.results6 rfl fun w' s' => ⟨?_, s'.toExt (Sub.refl _)⟩
                first
                  | rfl
                  | (exfalso; simp at *; done)
                  | (exfalso; simp_all; done)
                  | (simp_all; done)
            · refine tNo rfl rfl rfl rfl (tNo rfl rfl rfl rfl (tNo rfl rfl rfl rfl (tQ rfl (qPickF rfl rfl) (tQ rfl (qMove rfl) (tNo rfl rfl rfl rfl (tNo rfl rfl rfl rfl (tNo rfl rfl rfl rfl (tQ rfl (qPickF rfl rfl) (tQ rfl (qAssign rfl) (tEnd (xThen (cRet (xRetThen ?_)))))))))))))
              refine xRet1 _ Tryd.results6 rfl fun w' s' => ⟨?_, s'.toExt (Sub.refl _)⟩
              first
                | rfl
                | (exfalso; simp at *; done)
                | (exfalso; simp_all; done)
                | (simp_all; done)
          · refine tNo rfl rfl rfl rfl (tNo rfl rfl rfl rfl (tQ rfl (qPickF rfl rfl) (tQ rfl (qMove rfl) (tNo rfl rfl rfl rfl (tNo rfl rfl rfl rfl (tNo rfl rfl rfl rfl (tQ rfl (qPickF rfl rfl) (tQ rfl (qMove rfl) (tNo rfl rfl rfl rfl (tNo rfl rfl rfl rfl (tNo rfl rfl rfl rfl ?_)))))))))))
            refine tQ rfl (qPickF rfl rfl) (tQ rfl (qAssign rfl) (tEnd (xThen (cRet (xRetThen ?_)))))
            refine xRet1 _ Tryd.results6 rfl fun w' s' => ⟨?_, s'.toExt (Sub.refl _)⟩
            first
              | rfl
              | (exfalso; simp at *; done)
              | (exfalso; simp_all; done)
              | (simp_all; done)
        · refine tGo rfl rfl (tQ rfl (qMove rfl) (tGo rfl rfl (tQ rfl (qMove rfl) (tGo rfl rfl (tQ rfl (qLenStr Tryd.runUnderlying9 rfl rfl) (tGo rfl rfl (tQ rfl (qGt rfl rfl) (tQ rfl (qPickF rfl rfl) (tQ rfl (qMove rfl) ?_)))))))))
          refine tCase 54 rfl (fun g54 => ?_) (fun g54 => ?_)
          · refine tNo rfl rfl rfl rfl (tNo rfl rfl rfl rfl (tNo rfl rfl rfl rfl (tNo rfl rfl rfl rfl (tNoU rfl rfl rfl (tNoU rfl rfl rfl (tNoU rfl rfl rfl (tNoU rfl rfl rfl (tNo rfl rfl rfl rfl (tQ rfl (qPickT rfl rfl) (tEnd (xThen (cIfT rfl ?_))))))))))))
            refine cSeq ?_
            have hnb : ¬ brdM p.raw s at_ := by
              unfold brdM
              rintro ⟨h1, h2, h3⟩
              simp_all <;> omega
            have hg1 := gate_range hck hnb
            have hb := back_bad (l := false) (show gate p s at_ ≠ 0 by rw [hg1]; decide)
            have hb2 := back_bad (l := true) (show gate p s at_ ≠ 0 by rw [hg1]; decide)
            rw [hg1] at hb hb2
            rw [hb.2, hb2.1]
            refine cReg (tQ rfl (qMove rfl) (tQ rfl (qEq rfl rfl) (tQ rfl (qMove rfl) ?_)))
            refine tCase 67 rfl (fun g67 => ?_) (fun g67 => ?_)
            · refine tGo rfl rfl (tQ rfl (qMove rfl) (tGo rfl rfl (tQ rfl (qEq rfl rfl) (tQ rfl (qPickT rfl rfl) (tQ rfl (qMove rfl) ?_)))))
              refine tCase 71 rfl (fun g71 => ?_) (fun g71 => ?_)
              · refine tGo rfl rfl (tQ rfl (qMove rfl) (tGo rfl rfl (tQ rfl (qLen Tryd.runUnderlying24 rfl rfl) (tGo rfl rfl (tQ rfl (qEq rfl rfl) (tQ rfl (qPickT rfl rfl) (tQ rfl (qMove rfl) ?_)))))))
                refine tCase 76 rfl (fun g76 => ?_) (fun g76 => ?_)
                · refine tGo rfl rfl (tQ rfl (qMove rfl) (tGo rfl rfl (tQ rfl (qLen Tryd.runUnderlying24 rfl rfl) (tGo rfl rfl (tQ rfl (qEq rfl rfl) (tQ rfl (qPickT rfl rfl) (tQ rfl (qAssign rfl) (tEnd (xThen (cRet (xRetThen ?_)))))))))))
                  refine xRet1 _ Tryd.results6 rfl fun w' s' => ⟨?_, s'.toExt (Sub.refl _)⟩
                  first
                    | rfl
                    | (exfalso; simp at *; done)
                    | (exfalso; simp_all; done)
                    | (simp_all; done)
                · refine tNo rfl rfl rfl rfl (tNo rfl rfl rfl rfl (tNo rfl rfl rfl rfl (tQ rfl (qPickF rfl rfl) (tQ rfl (qAssign rfl) (tEnd (xThen (cRet (xRetThen ?_))))))))
                  refine xRet1 _ Tryd.results6 rfl fun w' s' => ⟨?_, s'.toExt (Sub.refl _)⟩
                  first
                    | rfl
                    | (exfalso; simp at *; done)
                    | (exfalso; simp_all; done)
                    | (simp_all; done)
              · refine tNo rfl rfl rfl rfl (tNo rfl rfl rfl rfl (tNo rfl rfl rfl rfl (tQ rfl (qPickF rfl rfl) (tQ rfl (qMove rfl) (tNo rfl rfl rfl rfl (tNo rfl rfl rfl rfl (tNo rfl rfl rfl rfl (tQ rfl (qPickF rfl rfl) (tQ rfl (qAssign rfl) (tEnd (xThen (cRet (xRetThen ?_)))))))))))))
                refine xRet1 _ Tryd.results6 rfl fun w' s' => ⟨?_, s'.toExt (Sub.refl _)⟩
                first
                  | rfl
                  | (exfalso; simp at *; done)
                  | (exfalso; simp_all; done)
                  | (simp_all; done)
            · refine tNo rfl rfl rfl rfl (tNo rfl rfl rfl rfl (tQ rfl (qPickF rfl rfl) (tQ rfl (qMove rfl) (tNo rfl rfl rfl rfl (tNo rfl rfl rfl rfl (tNo rfl rfl rfl rfl (tQ rfl (qPickF rfl rfl) (tQ rfl (qMove rfl) (tNo rfl rfl rfl rfl (tNo rfl rfl rfl rfl (tNo rfl rfl rfl rfl ?_)))))))))))
              refine tQ rfl (qPickF rfl rfl) (tQ rfl (qAssign rfl) (tEnd (xThen (cRet (xRetThen ?_)))))
              refine xRet1 _ Tryd.results6 rfl fun w' s' => ⟨?_, s'.toExt (Sub.refl _)⟩
              first
                | rfl
                | (exfalso; simp at *; done)
                | (exfalso; simp_all; done)
                | (simp_all; done)
          · refine tGo rfl rfl (tQ rfl (qFieldAddr Tryd.runUnderlying31 rfl Tryd.sizeOf4 rfl rfl rfl) (tGo rfl rfl (tQ rfl (qLd1M 2 Tryd.isAgg4 rfl rfl rfl) (tGo rfl rfl (tQ rfl (qNot rfl) (tGo rfl rfl (tQ rfl (qMove rfl) ?_)))))))
            refine tCase 58 rfl (fun g58 => ?_) (fun g58 => ?_)
            · refine tGo rfl rfl (tQ rfl (qMove rfl) (tGo rfl rfl (tQ rfl (qMove rfl) (tGo rfl rfl (tCallQ rfl Tryd.call22 (first := []) (captured := []) rfl rfl (fun w' s' => border01 s'.sub hat (by omega)) (tGo rfl rfl (tQ rfl (qNot rfl) (tGo rfl rfl (tQ rfl (qPickT rfl rfl) (tQ rfl (qPickF rfl rfl) (tEnd (xThen ?_))))))))))))
              refine cIf rfl (fun c64 => ?_) (fun c64 => ?_)
              · refine cSeq ?_
                have hnb : ¬ brdM p.raw s at_ := by
                  unfold brdM
                  rintro ⟨h1, h2, h3⟩
                  simp_all <;> omega
                have hg1 := gate_range hck hnb
                have hb := back_bad (l := false) (show gate p s at_ ≠ 0 by rw [hg1]; decide)
                have hb2 := back_bad (l := true) (show gate p s at_ ≠ 0 by rw [hg1]; decide)
                rw [hg1] at hb hb2
                rw [hb.2, hb2.1]
                refine cReg (tQ rfl (qMove rfl) (tQ rfl (qEq rfl rfl) (tQ rfl (qMove rfl) ?_)))
                refine tCase 67 rfl (fun g67 => ?_) (fun g67 => ?_)
                · refine tGo rfl rfl (tQ rfl (qMove rfl) (tGo rfl rfl (tQ rfl (qEq rfl rfl) (tQ rfl (qPickT rfl rfl) (tQ rfl (qMove rfl) ?_)))))
                  refine tCase 71 rfl (fun g71 => ?_) (fun g71 => ?_)
                  · refine tGo rfl rfl (tQ rfl (qMove rfl) (tGo rfl rfl (tQ rfl (qLen Tryd.runUnderlying24 rfl rfl) (tGo rfl rfl (tQ rfl (qEq rfl rfl) (tQ rfl (qPickT rfl rfl) (tQ rfl (qMove rfl) ?_)))))))
                    refine tCase 76 rfl (fun g76 => ?_) (fun g76 => ?_)
                    · refine tGo rfl rfl (tQ rfl (qMove rfl) (tGo rfl rfl (tQ rfl (qLen Tryd.runUnderlying24 rfl rfl) (tGo rfl rfl (tQ rfl (qEq rfl rfl) (tQ rfl (qPickT rfl rfl) (tQ rfl (qAssign rfl) (tEnd (xThen (cRet (xRetThen ?_)))))))))))
                      refine xRet1 _ Tryd.results6 rfl fun w' s' => ⟨?_, s'.toExt (Sub.refl _)⟩
                      first
                        | rfl
                        | (exfalso; simp at *; done)
                        | (exfalso; simp_all; done)
                        | (simp_all; done)
                    · refine tNo rfl rfl rfl rfl (tNo rfl rfl rfl rfl (tNo rfl rfl rfl rfl (tQ rfl (qPickF rfl rfl) (tQ rfl (qAssign rfl) (tEnd (xThen (cRet (xRetThen ?_))))))))
                      refine xRet1 _ Tryd.results6 rfl fun w' s' => ⟨?_, s'.toExt (Sub.refl _)⟩
                      first
                        | rfl
                        | (exfalso; simp at *; done)
                        | (exfalso; simp_all; done)
                        | (simp_all; done)
                  · refine tNo rfl rfl rfl rfl (tNo rfl rfl rfl rfl (tNo rfl rfl rfl rfl (tQ rfl (qPickF rfl rfl) (tQ rfl (qMove rfl) (tNo rfl rfl rfl rfl (tNo rfl rfl rfl rfl (tNo rfl rfl rfl rfl (tQ rfl (qPickF rfl rfl) (tQ rfl (qAssign rfl) (tEnd (xThen (cRet (xRetThen ?_)))))))))))))
                    refine xRet1 _ Tryd.results6 rfl fun w' s' => ⟨?_, s'.toExt (Sub.refl _)⟩
                    first
                      | rfl
                      | (exfalso; simp at *; done)
                      | (exfalso; simp_all; done)
                      | (simp_all; done)
                · refine tNo rfl rfl rfl rfl (tNo rfl rfl rfl rfl (tQ rfl (qPickF rfl rfl) (tQ rfl (qMove rfl) (tNo rfl rfl rfl rfl (tNo rfl rfl rfl rfl (tNo rfl rfl rfl rfl (tQ rfl (qPickF rfl rfl) (tQ rfl (qMove rfl) (tNo rfl rfl rfl rfl (tNo rfl rfl rfl rfl (tNo rfl rfl rfl rfl ?_)))))))))))
                  refine tQ rfl (qPickF rfl rfl) (tQ rfl (qAssign rfl) (tEnd (xThen (cRet (xRetThen ?_)))))
                  refine xRet1 _ Tryd.results6 rfl fun w' s' => ⟨?_, s'.toExt (Sub.refl _)⟩
                  first
                    | rfl
                    | (exfalso; simp at *; done)
                    | (exfalso; simp_all; done)
                    | (simp_all; done)
              · refine cSkip ?_
                refine xMeet _ () ?_ (le_of ⟨rfl, rfl, trivial⟩) (fun _ s => s.less (List.nil_sublist _))
                unfold brdM
                simp only [Go.V.dsl, reduceCtorEq] at *
                refine ⟨by omega, by omega, fun e => ?_⟩
                simp_all
            · refine tNo rfl rfl rfl rfl (tNo rfl rfl rfl rfl (tNo rfl rfl rfl rfl (tNo rfl rfl rfl rfl (tGo rfl rfl (tQ rfl (qPickF rfl rfl) (tQ rfl (qPickF rfl rfl) (tEnd (xThen (cIfF rfl (cSkip ?_))))))))))
              refine xMeet _ () ?_ (le_of ⟨rfl, rfl, trivial⟩) (fun _ s => s.less (List.nil_sublist _))
              unfold brdM
              simp only [Go.V.dsl, reduceCtorEq] at *
              refine ⟨by omega, by omega, fun e => ?_⟩
              simp_all
      · rintro u hbr
        have ho := back_open (l := false) hck hbr
        have ho2 := back_open (l := true) hck hbr
        refine cSeq (cReg (tQ rfl (qMove rfl) (tQ rfl (qNe rfl rfl) (tQ rfl (qMove rfl) ?_))))
        refine tCase 83 rfl (fun g83 => ?_) (fun g83 => ?_)
        · refine tGo rfl rfl (tQ rfl (qMove rfl) (tGo rfl rfl (tQ rfl (qNe rfl rfl) (tQ rfl (qPickT rfl rfl) (tQ rfl (qMove rfl) ?_)))))
          refine tCase 87 rfl (fun g87 => ?_) (fun g87 => ?_)
          · refine tGo rfl rfl (tQ rfl (qMove rfl) (tGo rfl rfl (tQ rfl (qNe rfl rfl) (tQ rfl (qPickT rfl rfl) (tQ rfl (qMove rfl) ?_)))))
            refine tCase 91 rfl (fun g91 => ?_) (fun g91 => ?_)
            · refine tGo rfl rfl (tQ rfl (qMove rfl) (tGo rfl rfl (tQ rfl (qNe rfl rfl) (tQ rfl (qPickT rfl rfl) (tQ rfl (qAssign rfl) (tEnd (xThen (cRet ?_))))))))
              refine xRet1 _ Tryd.results6 rfl fun w' s' => ⟨?_, s'.toExt (Sub.refl _)⟩
              first
                | rfl
                | (exfalso; simp at *; done)
                | (exfalso; simp_all; done)
                | (simp_all; done)
            · refine tNo rfl rfl rfl rfl (tNo rfl rfl rfl rfl (tQ rfl (qPickF rfl rfl) (tQ rfl (qAssign rfl) (tEnd (xThen (cRet ?_))))))
              refine xRet1 _ Tryd.results6 rfl fun w' s' => ⟨?_, s'.toExt (Sub.refl _)⟩
              first
                | rfl
                | (exfalso; simp at *; done)
                | (exfalso; simp_all; done)
                | (simp_all; done)
          · refine tNo rfl rfl rfl rfl (tNo rfl rfl rfl rfl (tQ rfl (qPickF rfl rfl) (tQ rfl (qMove rfl) (tNo rfl rfl rfl rfl (tNo rfl rfl rfl rfl (tQ rfl (qPickF rfl rfl) (tQ rfl (qAssign rfl) (tEnd (xThen (cRet ?_))))))))))
            refine xRet1 _ Tryd.results6 rfl fun w' s' => ⟨?_, s'.toExt (Sub.refl _)⟩
            first
              | rfl
              | (exfalso; simp at *; done)
              | (exfalso; simp_all; done)
              | (simp_all; done)
        · refine tNo rfl rfl rfl rfl (tNo rfl rfl rfl rfl (tQ rfl (qPickF rfl rfl) (tQ rfl (qMove rfl) (tNo rfl rfl rfl rfl (tNo rfl rfl rfl rfl (tQ rfl (qPickF rfl rfl) (tQ rfl (qMove rfl) (tNo rfl rfl rfl rfl (tNo rfl rfl rfl rfl (tQ rfl (qPickF rfl rfl) (tQ rfl (qAssign rfl) ?_)))))))))))
          refine tEnd (xThen (cRet ?_))
          refine xRet1 _ Tryd.results6 rfl fun w' s' => ⟨?_, s'.toExt (Sub.refl _)⟩
          first
            | rfl
            | (exfalso; simp at *; done)
            | (exfalso; simp_all; done)
            | (simp_all; done)

theorem sameIntsT {F : Hp} {w : World} {A B : Option Addr} {n m c d : Nat} {xs ys : List Int} (hF : Sub F (hp w)) (hx : RdI F .i64 A n xs) (hy : RdI F .i64 B m ys) (hn : n ≤ 1000000000) (hm : m ≤ 1000000000) (e : xs = ys) :
    Calls Tryd.prog 16 [.slice A n c, .slice B m d].toArray w (fun e w' => e = .returned (.bool true) ∧ Ext w w') :=
  (sameInts hF hx hy hn hm).mono fun _ _ ⟨h1, h2⟩ => ⟨by rw [h1, decide_eq_true e], h2⟩
theorem HitI.rng {p : Prg} {s : ByteArray} {bd : Nat} {sl : List Int} (h : HitI p s bd sl) (hb : bd < (mP p.raw s).length) {i : Nat} (hi : i < sl.length) : -1 ≤ gZ sl i ∧ gZ sl i ≤ gZ sl 1 := by
  have h1 := place_pos hb
  have h2 := h.one
  rcases slOk_at h.ok hi with h3 | h3 <;> omega
/-- The facts of `found`, piece by piece. -/
structure Fnd (p : Prg) (s : ByteArray) (at_ b : Int) : Prop where
  f0 : (backFrom p s b false).2 = 0
  m0 : (backMatch p s at_ false).2 = 0
  e1 : (backFrom p s b false).1 = (backMatch p s at_ false).1
  e2 : (backFrom p s b true).1 = (backMatch p s at_ true).1
  l1 : (backFrom p s b false).1.length = 2 * p.names.length + 2
  l2 : (backFrom p s b true).1.length = 2 * p.names.length + 2
  z1 : gZ (backFrom p s b false).1 0 = b
  z2 : gZ (backFrom p s b true).1 0 = b
  o1 : b ≤ gZ (backFrom p s b false).1 1
  mn : gZ (backFrom p s b false).1 1 ≤ gZ (backFrom p s b true).1 1
  r1 : ∀ i, i < 2 * p.names.length + 2 → -1 ≤ gZ (backFrom p s b false).1 i ∧ gZ (backFrom p s b false).1 i ≤ gZ (backFrom p s b false).1 1
  r2 : ∀ i, i < 2 * p.names.length + 2 → -1 ≤ gZ (backFrom p s b true).1 i ∧ gZ (backFrom p s b true).1 i ≤ gZ (backFrom p s b true).1 1
theorem fnd {p : Prg} {s : ByteArray} {a b : Int} (hg : gate p s a = 0) (hab : a ≤ b) (hb : brdM p.raw s b) (h : noneTo p s a b) (hn : (backFrom p s b false).2 ≠ 7) : Fnd p s a b := by
  obtain ⟨m, n, e1, e2, e3, e4, hm, hk, hmn⟩ := found hg hab hb h hn
  have fb := firstOf_lt (mem_place hb)
  have z := hm.zero
  have z' := hk.zero
  have o := hm.one
  rw [fb.2] at z z' o
  constructor <;> simp only [e1, e2, e3, e4]
  · exact hm.len
  · exact hk.len
  · exact z
  · exact z'
  · exact o
  · exact hmn
  · exact fun i hi => hm.rng fb.1 (by rw [hm.len]; exact hi)
  · exact fun i hi => hk.rng fb.1 (by rw [hk.len]; exact hi)
theorem backPlaces_ {F : Hp} {w : World} {A B : Option Addr} {n m cA cB : Nat} {p : Prg} {s : ByteArray} {at_ : Int} (hF : Sub F (hp w)) (hT : T F) (hg : RdG F A n B m p) (hc : m ≤ cB) (hat : I64 at_) (hsz : s.size ≤ 1048576) :
    Calls Tryd.prog 4 [.agg #[.slice A n cA, .slice B m cB, .bool p.raw], .string s, .int .i64 at_].toArray w (fun e w' => e = .returned (.bool true) ∧ Ext w w') := by
  replace hT := hT.mono hF
  replace hg := hg.mono hF
  refine Calls.mono (enterG (R := fun v w' => v = .bool true ∧ Ext w w') 194 Tryd.func4 Tryd.ntmps4 rfl rfl (WS.start w) ?_) (fun e w' ⟨v, h1, h2, h3⟩ => ⟨by rw [h1, h2], h3⟩)
  refine cSeq (cReg (tBox rfl rfl rfl (cs := [_, _, _]) fun b3 => (tQ rfl (qAssign rfl) (tEnd (xThen (cSeq (cSeq (cReg (tCallQ rfl Tryd.call13 (first := []) (captured := []) rfl rfl (fun w' s' => wakes_ s'.sub hT) (tQ rfl (qNot rfl) (tEnd (xThen ?_))))))))))))
  refine cIf rfl (fun c18 => ?_) (fun c18 => ?_)
  · refine cSeq (cReg (tQ rfl (qAssign rfl) (tEnd (xThen (cRet (xRetThen ?_))))))
    exfalso
    simp at c18
  · refine cSkip (xThen (cSeq (cSeq (cReg (tQ rfl (qLdNM 0 Tryd.isAgg31 Tryd.sizeOf31 rfl rfl rfl rfl) (tQ rfl (qMove rfl) (tQ rfl (qMove rfl) (tCallQ rfl Tryd.call17 (first := []) (captured := []) rfl rfl (fun w' s' => sound_ s'.sub hT hg hc hat hsz) (tQ rfl (qNot rfl) (tEnd (xThen ?_)))))))))))
    refine cIf rfl (fun c23 => ?_) (fun c23 => ?_)
    · refine cSeq (cReg (tQ rfl (qAssign rfl) (tEnd (xThen (cRet (xRetThen ?_))))))
      refine xRet1 _ Tryd.results4 rfl fun w' s' => ⟨rfl, s'.toExt (Sub.refl _)⟩
    · have hg0 : gate p s at_ = 0 := by simpa using c23
      obtain ⟨hck, hbr, _⟩ := gate_ok hg0
      have hat0 := hbr.1
      have hx07 : (backMatch p s at_ false).2 = 0 ∨ (backMatch p s at_ false).2 = 7 := by
        unfold backMatch
        rw [hg0]
        exact ans_snd
      refine cSkip (xThen (cSeq (cReg (tQ rfl (qLdNM 0 Tryd.isAgg31 Tryd.sizeOf31 rfl rfl rfl rfl) (tQ rfl (qMove rfl) (tQ rfl (qMove rfl) (tCallO rfl Tryd.call18 (first := []) (captured := []) rfl rfl (Φ := ResP (backMatch p s at_ false)) (fun w' s' => matchO_ s'.sub hT hg hc hat (by omega)) fun v C hΦ => ?_)))))))
      obtain ⟨A1, c1, rfl, hA1, rfl⟩ := hΦ
      refine tQ rfl (qMove rfl) (tQ rfl (qExtract rfl rfl) (tQ rfl (qExtract rfl rfl) (tQ rfl (qAssign rfl) (tQ rfl (qAssign rfl) (tEnd (xThen (cSeq (cReg (tQ rfl (qLdNM 1 Tryd.isAgg31 Tryd.sizeOf31 rfl rfl rfl rfl) (tQ rfl (qMove rfl) (tQ rfl (qMove rfl) (tCallO rfl Tryd.call18 (first := []) (captured := []) rfl rfl (Φ := ResP (backMatch p s at_ true)) (fun w' s' => matchO_ s'.sub hT hg hc hat (by omega)) fun v C hΦ => ?_))))))))))))
      obtain ⟨A2, c2, rfl, hA2, rfl⟩ := hΦ
      refine tQ rfl (qMove rfl) (tQ rfl (qExtract rfl rfl) (tQ rfl (qExtract rfl rfl) (tQ rfl (qAssign rfl) (tQ rfl (qAssign rfl) (tEnd (xThen ?_))))))
      refine cCut (⟨fun (Fq : Hp) => [(1, .string s), (2, .int .i64 at_), (3, .pointer (some ⟨b3, 0, none⟩)), (7, rowV A1 (backMatch p s at_ false).1.length c1), (8, .int .i64 (backMatch p s at_ false).2), (9, rowV A2 (backMatch p s at_ true).1.length c2), (10, .int .i64 (backMatch p s at_ true).2)], fun (Fq : Hp) => Fq, fun (Fq : Hp) => [blk b3 [.slice A n cA, .slice B m cB, .bool p.raw] 31], fun (Fq : Hp) => Sub (hp w) Fq ∧ RdI Fq .i64 (Option.map (fun b => (⟨b, 0, none⟩ : Addr)) A1) (backMatch p s at_ false).1.length (backMatch p s at_ false).1 ∧ RdI Fq .i64 (Option.map (fun b => (⟨b, 0, none⟩ : Addr)) A2) (backMatch p s at_ true).1.length (backMatch p s at_ true).1, fun (Fq : Hp) => 0⟩ : LI (Hp)) ?_ ?_
      · refine cSeq (cReg (tQ rfl (qMove rfl) (tQ rfl (qMove rfl) (tQ rfl (qIs (qNe rfl rfl) (by rw [bne_eq_false_iff_eq]; exact first_snd hg0)) (tQ rfl (qMove rfl) (tGo rfl rfl (tQ rfl (qMove rfl) (tGo rfl rfl (tQ rfl (qNe rfl rfl) (tGo rfl rfl (tQ rfl (qMove rfl) ?_)))))))))))
        refine tCase 44 rfl (fun g44 => ?_) (fun g44 => ?_)
        · refine tGo rfl rfl (tQ rfl (qMove rfl) (tGo rfl rfl (tQ rfl (qIs (qNe rfl rfl) (by rw [bne_eq_false_iff_eq]; simp at g44; exact hx07.resolve_left g44)) (tGo rfl rfl (tQ rfl (qPickT rfl rfl) (tQ rfl (qPickF rfl rfl) (tEnd (xThen (cIfF rfl (cSkip (xFreeze 1 rfl fun FP hSP hAP hNP => (xFreeze 0 rfl fun FQ hSQ hAQ hNQ => ?_))))))))))))
          refine xMeet _ FQ ?_ (le_of ⟨rfl, rfl, rfl, rfl, rfl, rfl, rfl, trivial⟩) (fun _ s => s)
          exact ⟨hSP.trans hSQ, (rd_of_row hAP rfl hA1).mono hSQ, rd_of_row hAQ rfl hA2⟩
        · refine tNo rfl rfl rfl rfl (tNo rfl rfl rfl rfl (tGo rfl rfl (tQ rfl (qPickF rfl rfl) (tQ rfl (qPickF rfl rfl) (tEnd (xThen (cIfF rfl (cSkip (xFreeze 1 rfl fun FP hSP hAP hNP => (xFreeze 0 rfl fun FQ hSQ hAQ hNQ => ?_))))))))))
          refine xMeet _ FQ ?_ (le_of ⟨rfl, rfl, rfl, rfl, rfl, rfl, rfl, trivial⟩) (fun _ s => s)
          exact ⟨hSP.trans hSQ, (rd_of_row hAP rfl hA1).mono hSQ, rd_of_row hAQ rfl hA2⟩
      · rintro Fq ⟨hSq, hrx, hry⟩
        replace hT := hT.mono hSq
        replace hg := hg.mono hSq
        refine cSeq (cSeq (cReg (tQ rfl (qMove rfl) (tQ rfl (qAssign rfl) (tEnd (xThen (cBlock (cLoop (⟨fun (b : Int) => [(1, .string s), (2, .int .i64 at_), (3, .pointer (some ⟨b3, 0, none⟩)), (7, rowV A1 (backMatch p s at_ false).1.length c1), (8, .int .i64 (backMatch p s at_ false).2), (9, rowV A2 (backMatch p s at_ true).1.length c2), (10, .int .i64 (backMatch p s at_ true).2), (11, .int .i64 b)], fun (b : Int) => Fq, fun (b : Int) => [blk b3 [.slice A n cA, .slice B m cB, .bool p.raw] 31], fun (b : Int) => at_ ≤ b ∧ b ≤ (s.size : Int) + 1 ∧ noneTo p s at_ b, fun (b : Int) => ((s.size : Int) + 1 - b).toNat⟩ : LI (Int)) (loopStart _ at_ ⟨Int.le_refl _, by have := hbr.2.1; omega, noneTo_start hbr⟩ (le_of ⟨rfl, rfl, rfl, rfl, rfl, rfl, rfl, rfl, trivial⟩) (fun _ s => s)) ?_))))))))
        rintro b ⟨hab, hbs, hno⟩
        refine cSeq (cSeq (cReg (tQ rfl (qMove rfl) (tQ rfl (qMove rfl) (tQ rfl (qLenStr Tryd.runUnderlying9 rfl rfl) (tQ rfl (qLe rfl rfl) (tEnd (xThen ?_))))))))
        refine cIf rfl (fun c53 => ?_) (fun c53 => ?_)
        · refine cSkip (xThen (cSeq (cBlock (cSeq (cSeq ?_)))))
          have hb64 : I64 b := by
            have h1 := hat.1
            have h2 : b ≤ s.size := by simpa using c53
            exact ⟨by omega, by omega⟩
          refine cReg (tQ rfl (qMove rfl) (tQ rfl (qMove rfl) (tQ rfl (qFieldAddr Tryd.runUnderlying31 rfl Tryd.sizeOf4 rfl rfl rfl) (tQ rfl (qLd1M 0 Tryd.isAgg4 rfl rfl rfl) (tCallQ rfl Tryd.call19 (first := []) (captured := []) rfl rfl (fun w' s' => border12_ s'.sub hb64 (by omega)) (tQ rfl (qNot rfl) (tEnd (xThen ?_))))))))
          refine cIf rfl (fun c61 => ?_) (fun c61 => ?_)
          · refine cExit (xExitThen (xExitBlock (xThen (cReg (tQ rfl (qMove rfl) (tQ rfl (qAdd rfl rfl (w64 (by omega) (by omega))) (tQ rfl (qAssign rfl) (tEnd ?_))))))))
            refine xRound _ (b + 1) ?_ (by dsimp only; simp at c53; omega) (le_of ⟨rfl, rfl, rfl, rfl, rfl, rfl, rfl, rfl, trivial⟩) (fun _ s => s)
            have h2 : b ≤ s.size := by simpa using c53
            first
              | exact ⟨by omega, by omega, noneTo_skip hno (by simpa using c61)⟩
              | exact ⟨by omega, by omega, noneTo_next hno (hfs.2 (by simpa using c80))⟩
          · refine cSkip (xThen (cSeq ?_))
            have hbb : brdM p.raw s b := by simpa using c61
            obtain ⟨hgb, _⟩ := gate_on hg0 hab hbb
            have hfs := from_snd hgb
            refine cReg (tQ rfl (qLdNM 0 Tryd.isAgg31 Tryd.sizeOf31 rfl rfl rfl rfl) (tQ rfl (qMove rfl) (tQ rfl (qMove rfl) (tCallO rfl Tryd.call20 (first := []) (captured := []) rfl rfl (Φ := ResP (backFrom p s b false)) (fun w' s' => fromO_ s'.sub hT hg hc hb64 (by omega)) fun v C hΦ => ?_))))
            obtain ⟨A3, c3, rfl, hA3, rfl⟩ := hΦ
            refine tQ rfl (qMove rfl) (tQ rfl (qExtract rfl rfl) (tQ rfl (qExtract rfl rfl) (tQ rfl (qAssign rfl) (tQ rfl (qAssign rfl) (tEnd (xThen (cSeq (cReg (tQ rfl (qLdNM 1 Tryd.isAgg31 Tryd.sizeOf31 rfl rfl rfl rfl) (tQ rfl (qMove rfl) (tQ rfl (qMove rfl) (tCallO rfl Tryd.call20 (first := []) (captured := []) rfl rfl (Φ := ResP (backFrom p s b true)) (fun w' s' => fromO_ s'.sub hT hg hc hb64 (by omega)) fun v C hΦ => ?_))))))))))))
            obtain ⟨A4, c4, rfl, hA4, rfl⟩ := hΦ
            refine tQ rfl (qMove rfl) (tQ rfl (qExtract rfl rfl) (tQ rfl (qExtract rfl rfl) (tQ rfl (qAssign rfl) (tQ rfl (qAssign rfl) (tEnd (xThen (cSeq (cSeq (cReg (tQ rfl (qMove rfl) (tQ rfl (qMove rfl) (tQ rfl (qIs (qNe rfl rfl) (by rw [bne_eq_false_iff_eq]; exact hfs.1)) (tEnd (xThen (cIfF rfl (cSkip (xThen (cSeq (cSeq (cReg ?_))))))))))))))))))))
            refine tQ rfl (qMove rfl) (tQ rfl (qEq rfl rfl) (tEnd (xThen ?_)))
            refine cIf rfl (fun c80 => ?_) (fun c80 => ?_)
            · refine cExit (xExitThen (xExitBlock (xThen (cReg (tQ rfl (qMove rfl) (tQ rfl (qAdd rfl rfl (w64 (by omega) (by omega))) (tQ rfl (qAssign rfl) (tEnd ?_))))))))
              refine xRound _ (b + 1) ?_ (by dsimp only; simp at c53; omega) (le_of ⟨rfl, rfl, rfl, rfl, rfl, rfl, rfl, rfl, trivial⟩) (fun _ s => s.less (.cons _ (.cons _ (.cons_cons _ (.slnil)))))
              have h2 : b ≤ s.size := by simpa using c53
              first
                | exact ⟨by omega, by omega, noneTo_skip hno (by simpa using c61)⟩
                | exact ⟨by omega, by omega, noneTo_next hno (hfs.2 (by simpa using c80))⟩
            · refine cSkip (xThen (cSeq (cSeq ?_)))
              have fd := fnd hg0 hab hbb hno (by simpa using c80)
              refine cFreeze 1 rfl fun FR hSR hAR hNR => (cFreeze 0 rfl fun FS hSS hAS hNS => ?_)
              have hrm := (rd_of_row hAR rfl hA3).mono hSS
              have hrn := rd_of_row hAS rfl hA4
              replace hrx := hrx.mono (hSR.trans hSS)
              replace hry := hry.mono (hSR.trans hSS)
              have hnl := hg.names.len
              have hbg := hg.big.2.1
              have hBig : Big = 1048576 := rfl
              have l1 := fd.l1
              have l2 := fd.l2
              have l3 := congrArg List.length fd.e1
              have l4 := congrArg List.length fd.e2
              refine cReg (tQ rfl (qMove rfl) (tQ rfl (qIs (qNe rfl rfl) (by rw [bne_eq_false_iff_eq]; exact fd.m0)) (tQ rfl (qMove rfl) (tGo rfl rfl (tQ rfl (qMove rfl) (tGo rfl rfl (tQ rfl (qIs (qNe rfl rfl) (by rw [bne_eq_false_iff_eq]; exact fd.f0)) (tQ rfl (qPickF rfl rfl) (tQ rfl (qMove rfl) (tGo rfl rfl (tQ rfl (qMove rfl) ?_)))))))))))
              refine tGo rfl rfl (tQ rfl (qMove rfl) (tGo rfl rfl (tCallQ rfl Tryd.call16 (first := []) (captured := []) rfl rfl (fun w' s' => sameIntsT s'.sub hrm hrx (by omega) (by omega) fd.e1) (tGo rfl rfl (tQ rfl (qNot rfl) (tQ rfl (qPickF rfl rfl) (tQ rfl (qMove rfl) (tGo rfl rfl (tQ rfl (qMove rfl) (tGo rfl rfl (tQ rfl (qMove rfl) ?_)))))))))))
              refine tGo rfl rfl (tCallQ rfl Tryd.call16 (first := []) (captured := []) rfl rfl (fun w' s' => sameIntsT s'.sub hrn hry (by omega) (by omega) fd.e2) (tGo rfl rfl (tQ rfl (qNot rfl) (tQ rfl (qPickF rfl rfl) (tEnd (xThen (cIfF rfl (cSkip (xThen (cSeq (cSeq ?_)))))))))))
              obtain ⟨bm, rfl⟩ : ∃ b, A3 = some b := by
                cases A3 with
                | none => have := (hA3 rfl).2; omega
                | some b => exact ⟨b, rfl⟩
              obtain ⟨bn, rfl⟩ : ∃ b, A4 = some b := by
                cases A4 with
                | none => have := (hA4 rfl).2; omega
                | some b => exact ⟨b, rfl⟩
              obtain ⟨_, _, e, hym⟩ := hrm.at_ (by omega)
              cases e
              obtain ⟨_, _, e, hyn⟩ := hrn.at_ (by omega)
              cases e
              have q1 := fd.z1
              have q2 := fd.z2
              have q3 := fd.o1
              have q4 := fd.mn
              refine cDrawM 44 [(0, true), (1, true), (2, true), (3, true), (4, true), (5, true), (6, true), (7, true), (8, true), (9, true), (10, true), (11, true), (12, true), (13, true), (14, true), (15, true), (16, true), (17, true), (18, true), (19, true), (20, true), (21, true), (22, true), (23, true), (24, true), (25, true), (26, true), (27, true), (28, true), (29, true), (30, true), (31, true), (32, true), (33, true), (34, true), (35, true), (36, true), (37, true), (38, true), (39, true), (40, true), (41, true), (42, true), (43, true)] Tryd.mixed (by kernel_rfl) (fun _ _ _ _ _ h => h) (dQ rfl rfl (qMove rfl) (fun _ s => s) (dQ rfl rfl (qLen Tryd.runUnderlying24 rfl rfl) (fun _ s => s) (dQ rfl rfl (qFieldAddr Tryd.runUnderlying31 rfl Tryd.sizeOf29 rfl rfl rfl) (fun _ s => s) (dQ rfl rfl (qLd1M 0 Tryd.isAgg29 rfl rfl rfl) (fun _ s => s) (dQ rfl rfl (qLen Tryd.runUnderlying29 rfl rfl) (fun _ s => s) (dQ rfl rfl (qMul rfl rfl (w64 (by omega) (by omega))) (fun _ s => s) (dQ rfl rfl (qAdd rfl rfl (w64 (by omega) (by omega))) (fun _ s => s) (dQ rfl rfl (qIs (qNe rfl rfl) (by rw [bne_eq_false_iff_eq]; omega)) (fun _ s => s) (dQ rfl rfl (qMove rfl) (fun _ s => s) (dQgo rfl rfl rfl rfl (qMove rfl) (fun _ s => s) (dQgo rfl rfl rfl rfl (qLen Tryd.runUnderlying24 rfl rfl) (fun _ s => s) ?_)))))))))))
              refine dQgo rfl rfl rfl rfl (qMove rfl) (fun _ s => s) (dQgo rfl rfl rfl rfl (qLen Tryd.runUnderlying24 rfl rfl) (fun _ s => s) (dQgo rfl rfl rfl rfl (qIs (qNe rfl rfl) (by rw [bne_eq_false_iff_eq]; omega)) (fun _ s => s) (dQ rfl rfl (qPickF rfl rfl) (fun _ s => s) (dQ rfl rfl (qMove rfl) (fun _ s => s) (dQgo rfl rfl rfl rfl (qMove rfl) (fun _ s => s) (dQgo rfl rfl rfl rfl (qIdxAddr Tryd.runUnderlying24 Tryd.sizeOf3 rfl rfl (j := 0) rfl (by omega)) (fun _ s => s) (dQgo rfl rfl rfl rfl (qLd1 Tryd.isAgg3 rfl (hym 0 (by omega))) (fun _ s => s) (dQgo rfl rfl rfl rfl (qMove rfl) (fun _ s => s) (dQgo rfl rfl rfl rfl (qIs (qNe rfl rfl) (by rw [bne_eq_false_iff_eq]; omega)) (fun _ s => s) (dQ rfl rfl (qPickF rfl rfl) (fun _ s => s) (dQ rfl rfl (qMove rfl) (fun _ s => s) ?_)))))))))))
              refine dQgo rfl rfl rfl rfl (qMove rfl) (fun _ s => s) (dQgo rfl rfl rfl rfl (qIdxAddr Tryd.runUnderlying24 Tryd.sizeOf3 rfl rfl (j := 0) rfl (by omega)) (fun _ s => s) (dQgo rfl rfl rfl rfl (qLd1 Tryd.isAgg3 rfl (hyn 0 (by omega))) (fun _ s => s) (dQgo rfl rfl rfl rfl (qMove rfl) (fun _ s => s) (dQgo rfl rfl rfl rfl (qIs (qNe rfl rfl) (by rw [bne_eq_false_iff_eq]; omega)) (fun _ s => s) (dQ rfl rfl (qPickF rfl rfl) (fun _ s => s) (dQ rfl rfl (qMove rfl) (fun _ s => s) (dQgo rfl rfl rfl rfl (qMove rfl) (fun _ s => s) (dQgo rfl rfl rfl rfl (qIdxAddr Tryd.runUnderlying24 Tryd.sizeOf3 rfl rfl (j := 1) rfl (by omega)) (fun _ s => s) (dQgo rfl rfl rfl rfl (qLd1 Tryd.isAgg3 rfl (hym 1 (by omega))) (fun _ s => s) (dQgo rfl rfl rfl rfl (qMove rfl) (fun _ s => s) (dQgo rfl rfl rfl rfl (qIs (qLt rfl rfl) (by rw [decide_eq_false_iff_not]; omega)) (fun _ s => s) ?_)))))))))))
              refine dQ rfl rfl (qPickF rfl rfl) (fun _ s => s) (dQ rfl rfl (qMove rfl) (fun _ s => s) (dQgo rfl rfl rfl rfl (qMove rfl) (fun _ s => s) (dQgo rfl rfl rfl rfl (qIdxAddr Tryd.runUnderlying24 Tryd.sizeOf3 rfl rfl (j := 1) rfl (by omega)) (fun _ s => s) (dQgo rfl rfl rfl rfl (qLd1 Tryd.isAgg3 rfl (hyn 1 (by omega))) (fun _ s => s) (dQgo rfl rfl rfl rfl (qMove rfl) (fun _ s => s) (dQgo rfl rfl rfl rfl (qIdxAddr Tryd.runUnderlying24 Tryd.sizeOf3 rfl rfl (j := 1) rfl (by omega)) (fun _ s => s) (dQgo rfl rfl rfl rfl (qLd1 Tryd.isAgg3 rfl (hym 1 (by omega))) (fun _ s => s) (dQgo rfl rfl rfl rfl (qIs (qLt rfl rfl) (by rw [decide_eq_false_iff_not]; omega)) (fun _ s => s) (dEnd (tQ rfl (qPickF rfl rfl) (tEnd (xThen ?_))))))))))))
              refine cIfF rfl (cSkip (xThen (cSeq (cSeq (cReg (tQ rfl (qAssign rfl) (tEnd (xThen (cBlock (cLoop (⟨fun (i : Nat) => [(12, rowV (some bm) (backFrom p s b false).1.length c3), (14, rowV (some bn) (backFrom p s b true).1.length c4), (16, .int .i64 i)], fun (i : Nat) => FS, fun (i : Nat) => [blk b3 [.slice A n cA, .slice B m cB, .bool p.raw] 31], fun (i : Nat) => i ≤ (backFrom p s b false).1.length, fun (i : Nat) => (backFrom p s b false).1.length - i⟩ : LI (Nat)) (loopStart _ 0 (Nat.zero_le _) (le_of ⟨rfl, rfl, rfl, trivial⟩) (fun _ s => s)) ?_))))))))))
              rintro i hi
              refine cSeq (cSeq (cReg (tQ rfl (qMove rfl) (tQ rfl (qMove rfl) (tQ rfl (qLen Tryd.runUnderlying24 rfl rfl) (tQ rfl (qLt rfl rfl) (tEnd (xThen ?_))))))))
              refine cIf rfl (fun c147 => ?_) (fun c147 => ?_)
              · refine cSkip (xThen (cSeq (cBlock (cSeq ?_))))
                have hlt : i < (backFrom p s b false).1.length := by have := c147; simp only [decide_eq_true_eq] at this; omega
                have k1 := fd.r1 i (by omega)
                have k2 := fd.r2 i (by omega)
                refine cDrawM 31 [(0, true), (1, true), (2, true), (3, true), (4, true), (5, true), (6, true), (7, true), (8, true), (9, true), (10, true), (11, true), (12, true), (13, true), (14, true), (15, true), (16, true), (17, true), (18, true), (19, true), (20, true), (21, true), (22, true), (23, true), (24, true), (25, true), (26, true), (27, true), (28, true), (29, true), (30, true)] Tryd.mixed (by kernel_rfl) (fun _ _ _ _ _ h => h) (dQ rfl rfl (qMove rfl) (fun _ s => s) (dQ rfl rfl (qMove rfl) (fun _ s => s) (dQ rfl rfl (qIdxAddr Tryd.runUnderlying24 Tryd.sizeOf3 rfl rfl rfl (by omega)) (fun _ s => s) (dQ rfl rfl (qLd1 Tryd.isAgg3 rfl (hym i hlt)) (fun _ s => s) (dQ rfl rfl (qIs (qLt rfl rfl) (by rw [decide_eq_false_iff_not]; omega)) (fun _ s => s) (dQ rfl rfl (qMove rfl) (fun _ s => s) (dQgo rfl rfl rfl rfl (qMove rfl) (fun _ s => s) (dQgo rfl rfl rfl rfl (qMove rfl) (fun _ s => s) (dQgo rfl rfl rfl rfl (qIdxAddr Tryd.runUnderlying24 Tryd.sizeOf3 rfl rfl rfl (by omega)) (fun _ s => s) (dQgo rfl rfl rfl rfl (qLd1 Tryd.isAgg3 rfl (hym i hlt)) (fun _ s => s) (dQgo rfl rfl rfl rfl (qMove rfl) (fun _ s => s) ?_)))))))))))
                refine dQgo rfl rfl rfl rfl (qIdxAddr Tryd.runUnderlying24 Tryd.sizeOf3 rfl rfl (j := 1) rfl (by omega)) (fun _ s => s) (dQgo rfl rfl rfl rfl (qLd1 Tryd.isAgg3 rfl (hym 1 (by omega))) (fun _ s => s) (dQgo rfl rfl rfl rfl (qIs (qGt rfl rfl) (by rw [decide_eq_false_iff_not]; omega)) (fun _ s => s) (dQ rfl rfl (qPickF rfl rfl) (fun _ s => s) (dQ rfl rfl (qMove rfl) (fun _ s => s) (dQgo rfl rfl rfl rfl (qMove rfl) (fun _ s => s) (dQgo rfl rfl rfl rfl (qMove rfl) (fun _ s => s) (dQgo rfl rfl rfl rfl (qIdxAddr Tryd.runUnderlying24 Tryd.sizeOf3 rfl rfl rfl (by omega)) (fun _ s => s) (dQgo rfl rfl rfl rfl (qLd1 Tryd.isAgg3 rfl (hyn i (by omega))) (fun _ s => s) (dQgo rfl rfl rfl rfl (qIs (qLt rfl rfl) (by rw [decide_eq_false_iff_not]; omega)) (fun _ s => s) (dQ rfl rfl (qPickF rfl rfl) (fun _ s => s) (dQ rfl rfl (qMove rfl) (fun _ s => s) ?_)))))))))))
                refine dQgo rfl rfl rfl rfl (qMove rfl) (fun _ s => s) (dQgo rfl rfl rfl rfl (qMove rfl) (fun _ s => s) (dQgo rfl rfl rfl rfl (qIdxAddr Tryd.runUnderlying24 Tryd.sizeOf3 rfl rfl rfl (by omega)) (fun _ s => s) (dQgo rfl rfl rfl rfl (qLd1 Tryd.isAgg3 rfl (hyn i (by omega))) (fun _ s => s) (dQgo rfl rfl rfl rfl (qMove rfl) (fun _ s => s) (dQgo rfl rfl rfl rfl (qIdxAddr Tryd.runUnderlying24 Tryd.sizeOf3 rfl rfl (j := 1) rfl (by omega)) (fun _ s => s) (dQgo rfl rfl rfl rfl (qLd1 Tryd.isAgg3 rfl (hyn 1 (by omega))) (fun _ s => s) (dQgo rfl rfl rfl rfl (qIs (qGt rfl rfl) (by rw [decide_eq_false_iff_not]; omega)) (fun _ s => s) (dEnd (tQ rfl (qPickF rfl rfl) (tEnd (xThen (cIfF rfl ?_))))))))))))
                refine cSkip (xBlock (xThen (cReg (tQ rfl (qMove rfl) (tQ rfl (qAdd rfl rfl (w64 (by omega) (by omega))) (tQ rfl (qAssign rfl) (tEnd ?_)))))))
                refine xRound _ (i + 1) ?_ (by dsimp only; omega) (le_of ⟨rfl, rfl, rfl, trivial⟩) (fun _ s => s)
                exact hlt
              · refine cExit (xExitThen (xExitThen (xExitBlock (xThen (cSeq (cReg (tQ rfl (qAssign rfl) (tEnd (xThen (cRet (xRetBlock (xRetThen (xRetThen (xRetBlock (xRetThen ?_)))))))))))))))
                refine xRet1 _ Tryd.results4 rfl fun w' s' => ⟨rfl, s'.toExt (hSq.trans (hSR.trans hSS))⟩
        · refine cExit (xExitThen (xExitThen (xExitBlock (xThen (cSeq ?_)))))
          have hend : b = (s.size : Int) + 1 := by simp at c53; omega
          subst hend
          have hend1 := noneTo_end (l := false) hg0 hno
          have hend2 := noneTo_end (l := true) hg0 hno
          refine cReg (tQ rfl (qMove rfl) (tQ rfl (qIs (qEq rfl rfl) (by rw [beq_iff_eq]; rw [hend1])) (tQ rfl (qMove rfl) (tGo rfl rfl (tQ rfl (qMove rfl) (tGo rfl rfl (tQ rfl (qLen Tryd.runUnderlying24 rfl rfl) (tGo rfl rfl (tQ rfl (qIs (qEq rfl rfl) (by rw [beq_iff_eq]; rw [hend1]; rfl)) (tQ rfl (qPickT rfl rfl) (tQ rfl (qMove rfl) ?_)))))))))))
          refine tGo rfl rfl (tQ rfl (qMove rfl) (tGo rfl rfl (tQ rfl (qLen Tryd.runUnderlying24 rfl rfl) (tGo rfl rfl (tQ rfl (qIs (qEq rfl rfl) (by rw [beq_iff_eq]; rw [hend2]; rfl)) (tQ rfl (qPickT rfl rfl) (tQ rfl (qAssign rfl) (tEnd (xThen (cRet ?_))))))))))
          refine xRet1 _ Tryd.results4 rfl fun w' s' => ⟨rfl, s'.toExt hSq⟩

end Go.V
