/-
  Lemmas of this claim's own, part 2: contracts of the functions that the statement reaches, and the plain facts behind them.
-/
import Derived.Test.YtkebkfipjodnnaaDoorB00
import Derived.Scope
import Derived.ChangeShapes
import Derived.ChangeArms
import Derived.OpenShut
import Derived.Deep.Slices
import Derived.Lib.LaidTab
import Derived.DataShut
import GoSem.PinnedTables
import Derived.ChangeStays
import Derived.ChangeSame
import Derived.ChangeOld
import Derived.ReadAgain
import Derived.Below
set_option linter.unusedVariables false
set_option linter.unusedSimpArgs false
namespace Go.V

/-! ### The machine, as plain functions -/
abbrev Key := Nat × Nat × Nat
structure Thr where
  at_ : Nat
  bd : Nat
  lv : Nat
  sl : List Int
def Thr.key (t : Thr) : Key := (t.at_, t.bd, t.lv)
inductive Out where
  | die
  | go (t : Thr)
  | fork (a b : Thr)
  | hit (sl : List Int)
/-- Does a set hold a unit? -/
def hasU (rs : List Rng) (u : Int) : Prop := ∃ k, k < rs.length ∧ (gR rs k).lo ≤ u ∧ u ≤ (gR rs k).hi
instance (rs : List Rng) (u : Int) : Decidable (hasU rs u) := decidable_of_iff (∃ k : Fin rs.length, (gR rs k.1).lo ≤ u ∧ u ≤ (gR rs k.1).hi) ⟨fun ⟨k, h⟩ => ⟨k.1, k.2, h⟩, fun ⟨k, h, h'⟩ => ⟨⟨k, h⟩, h'⟩⟩
def wordB (c : Nat) : Bool := (48 ≤ c && c ≤ 57) || (65 ≤ c && c ≤ 90) || (97 ≤ c && c ≤ 122) || c == 95
def wordAt (s : ByteArray) (p : Nat) : Bool := (decide (0 < p) && wordB (B s (p - 1))) != (decide (p < s.size) && wordB (B s p))
/-- Does a look hold at a border? -/
def holds (n : Int) (s : ByteArray) (p : Nat) : Bool :=
  if n = 1 then decide (p = 0) else if n = 2 then decide (p = s.size) else if n = 3 then decide (p = 0 ∨ B s (p - 1) = 10) else if n = 4 then decide (p = s.size ∨ B s p = 10)
  else if n = 5 then wordAt s p else if n = 6 then !wordAt s p else if n = 7 then decide (p = s.size ∨ 0x10FFFF < (unt s p).1) else decide (brd s p)
structure Mach where
  ins : List Ins
  us : List Int
  ps : List Int
  text : ByteArray
def Mach.step (m : Mach) (t : Thr) : Out :=
  let x := gI m.ins t.at_
  let on : Thr := { t with at_ := x.x.toNat }
  if x.op = 1 then if t.bd = m.us.length then .die else if hasU x.set (gZ m.us t.bd) then .go { on with bd := t.bd + 1, lv := 64 } else .die
  else if x.op = 2 then .fork on { t with at_ := x.y.toNat }
  else if x.op = 3 then .go { on with sl := t.sl.set x.n.toNat (gZ m.ps t.bd) }
  else if x.op = 4 then if holds x.n m.text (gZ m.ps t.bd).toNat then .go on else .die
  else if x.op = 5 then .go { on with lv := min t.lv x.n.toNat }
  else if x.op = 6 then if (t.lv : Int) ≤ x.n then .die else .go on
  else if x.op = 7 then .hit (t.sl.set 1 (gZ m.ps t.bd))
  else if x.op = 8 then .die
  else .go on

def keys (m : Mach) : List Key := (List.range m.ins.length).flatMap fun a => (List.range m.ps.length).flatMap fun b => (List.range 65).map fun c => (a, b, c)
theorem mem_keys {m : Mach} {k : Key} : k ∈ keys m ↔ k.1 < m.ins.length ∧ k.2.1 < m.ps.length ∧ k.2.2 < 65 := by
  obtain ⟨a, b, c⟩ := k
  simp only [keys, List.mem_flatMap, List.mem_range, List.mem_map, Prod.mk.injEq]
  constructor
  · rintro ⟨x, h1, y, h2, z, h3, rfl, rfl, rfl⟩; exact ⟨h1, h2, h3⟩
  · rintro ⟨h1, h2, h3⟩; exact ⟨a, h1, b, h2, c, h3, rfl, rfl, rfl⟩
abbrev Vis := Key → Bool
def Vis.add (V : Vis) (k : Key) : Vis := fun j => if j = k then true else V j
def unvis (m : Mach) (V : Vis) : Nat := ((keys m).filter fun k => !V k).length
theorem filter_lt {α : Type} (p q : α → Bool) (hpq : ∀ x, q x = true → p x = true) : ∀ (l : List α) (a : α), a ∈ l → p a = true → q a = false → (l.filter q).length < (l.filter p).length := by
  have le : ∀ l : List α, (l.filter q).length ≤ (l.filter p).length := by
    intro l
    induction l with
    | nil => exact Nat.le_refl _
    | cons y l ih =>
      simp only [List.filter_cons]
      by_cases hq : q y = true
      · rw [if_pos hq, if_pos (hpq y hq)]; simp; omega
      · rw [if_neg hq]
        split
        · simp; omega
        · exact ih
  intro l
  induction l with
  | nil => intro a h; cases h
  | cons y l ih =>
    intro a h hp hq
    simp only [List.filter_cons]
    rcases List.mem_cons.1 h with rfl | h
    · rw [if_neg (by rw [hq]; simp), if_pos hp]
      have := le l; simp; omega
    · have := ih a h hp hq
      by_cases hy : q y = true
      · rw [if_pos hy, if_pos (hpq y hy)]; simp; omega
      · rw [if_neg hy]
        split
        · simp; omega
        · exact this
theorem unvis_add {m : Mach} {V : Vis} {k : Key} (hk : k ∈ keys m) (hv : V k = false) : unvis m (V.add k) < unvis m V := by
  refine filter_lt _ _ (fun x hx => ?_) _ k hk (by simp [hv]) (by simp [Vis.add])
  simp only [Vis.add] at hx
  split at hx
  · cases hx
  · exact hx
theorem sum_const {α : Type} (c : Nat) : ∀ l : List α, (l.map fun _ => c).sum = l.length * c
  | [] => by simp
  | a :: l => by simp [sum_const c l, Nat.add_mul, Nat.add_comm]
theorem unvis_le (m : Mach) (V : Vis) : unvis m V ≤ m.ins.length * m.ps.length * 65 := by
  refine Nat.le_trans (List.length_filter_le _ _) ?_
  simp only [keys, List.length_flatMap, List.length_map, List.length_range, sum_const]
  rw [Nat.mul_assoc]
  exact Nat.le_refl _

/-- The threads' hits in their order, and what has been visited behind it. -/
def fin (m : Mach) (V : Vis) : List Thr → List (List Int) × Vis
  | [] => ([], V)
  | t :: S =>
    if h : V t.key = true ∨ t.key ∉ keys m then fin m V S
    else match m.step t with
      | .die => fin m (V.add t.key) S
      | .go a => fin m (V.add t.key) (a :: S)
      | .fork a b => fin m (V.add t.key) (a :: b :: S)
      | .hit sl => let r := fin m (V.add t.key) S; (sl :: r.1, r.2)
termination_by S => 3 * unvis m V + S.length
decreasing_by
  all_goals try (have hlt : unvis m (V.add t.key) < unvis m V := unvis_add (Classical.byContradiction fun hc => h (.inr hc)) (by simpa using fun e => h (.inl e)))
  all_goals simp only [List.length_cons]; omega
theorem fin_nil (m : Mach) (V : Vis) : fin m V [] = ([], V) := by rw [fin]
theorem fin_skip {m : Mach} {V : Vis} {t : Thr} {S : List Thr} (h : V t.key = true) : fin m V (t :: S) = fin m V S := by rw [fin]; simp [h]
theorem fin_go {m : Mach} {V : Vis} {t a : Thr} {S : List Thr} (hk : t.key ∈ keys m) (h : V t.key = false) (hs : m.step t = .go a) : fin m V (t :: S) = fin m (V.add t.key) (a :: S) := by rw [fin]; simp [h, hk, hs]
theorem fin_die {m : Mach} {V : Vis} {t : Thr} {S : List Thr} (hk : t.key ∈ keys m) (h : V t.key = false) (hs : m.step t = .die) : fin m V (t :: S) = fin m (V.add t.key) S := by rw [fin]; simp [h, hk, hs]
theorem fin_fork {m : Mach} {V : Vis} {t a b : Thr} {S : List Thr} (hk : t.key ∈ keys m) (h : V t.key = false) (hs : m.step t = .fork a b) : fin m V (t :: S) = fin m (V.add t.key) (a :: b :: S) := by rw [fin]; simp [h, hk, hs]
theorem fin_hit {m : Mach} {V : Vis} {t : Thr} {sl : List Int} {S : List Thr} (hk : t.key ∈ keys m) (h : V t.key = false) (hs : m.step t = .hit sl) : fin m V (t :: S) = (sl :: (fin m (V.add t.key) S).1, (fin m (V.add t.key) S).2) := by rw [fin]; simp [h, hk, hs]

/-! ### What was visited and came to nothing does no harm -/
/-- The keys of the threads that a step makes. -/
def Out.ks : Out → List Key
  | .die => []
  | .go a => [a.key]
  | .fork a b => [a.key, b.key]
  | .hit _ => []
def Out.isHit : Out → Bool
  | .hit _ => true
  | _ => false
/-- What a step does is asked of the key alone. -/
theorem step_key {m : Mach} {t u : Thr} (h : t.key = u.key) : (m.step t).ks = (m.step u).ks ∧ (m.step t).isHit = (m.step u).isHit := by
  obtain ⟨a, b, c, s⟩ := t
  obtain ⟨a', b', c', s'⟩ := u
  simp only [Thr.key, Prod.mk.injEq] at h
  obtain ⟨rfl, rfl, rfl⟩ := h
  unfold Mach.step
  simp only
  repeat' split
  all_goals first | exact ⟨rfl, rfl⟩ | (exact ⟨by simp [Out.ks, Thr.key], rfl⟩)
/-- Closed but for what waits, and no hit in it. -/
def Closed (m : Mach) (V : Vis) (S : List Thr) : Prop := ∀ t : Thr, V t.key = true → (∀ k ∈ (m.step t).ks, V k = true ∨ (∃ u ∈ S, u.key = k) ∨ k ∉ keys m) ∧ (m.step t).isHit = false
theorem closed_empty (m : Mach) : Closed m (fun _ => false) [] := fun _ h => by cases h
theorem add_true {V : Vis} {k : Key} : (V.add k) k = true := by simp [Vis.add]
theorem add_mono {V : Vis} {k j : Key} (h : V j = true) : (V.add k) j = true := by unfold Vis.add; split <;> first | rfl | exact h
theorem add_cases {V : Vis} {k j : Key} (h : (V.add k) j = true) : j = k ∨ V j = true := by
  unfold Vis.add at h; split at h
  · exact .inl ‹_›
  · exact .inr h
theorem fin_closed {m : Mach} : ∀ (n : Nat) (V : Vis) (S : List Thr), 3 * unvis m V + S.length ≤ n → Closed m V S → (fin m V S).1 = [] → Closed m (fin m V S).2 [] := by
  intro n
  induction n with
  | zero =>
    intro V S hn hc hh
    have : S = [] := List.eq_nil_of_length_eq_zero (by omega)
    subst this
    rw [fin_nil]; exact hc
  | succ n ih =>
    intro V S hn hc hh
    cases S with
    | nil => rw [fin_nil]; exact hc
    | cons t S =>
      simp only [List.length_cons] at hn
      by_cases hs : V t.key = true ∨ t.key ∉ keys m
      · have e : fin m V (t :: S) = fin m V S := by rw [fin]; simp [hs]
        rw [e] at hh ⊢
        refine ih V S (by omega) (fun x hx => ⟨fun k hk => ?_, (hc x hx).2⟩) hh
        rcases (hc x hx).1 k hk with h | ⟨u, hu, h⟩ | h
        · exact .inl h
        · rcases List.mem_cons.1 hu with rfl | hu
          · rcases hs with h' | h'
            · exact .inl (h ▸ h')
            · exact .inr (.inr (h ▸ h'))
          · exact .inr (.inl ⟨u, hu, h⟩)
        · exact .inr (.inr h)
      · have hk : t.key ∈ keys m := Classical.byContradiction fun h => hs (.inr h)
        have hv : V t.key = false := by simpa using fun h => hs (.inl h)
        have hlt := unvis_add hk hv
        have step : ∀ S', (∀ k ∈ (m.step t).ks, ∃ u ∈ S', u.key = k) → (∀ u ∈ S, u ∈ S') → (m.step t).isHit = false → Closed m (V.add t.key) S' := by
          intro S' h1 h2 h3 x hx
          rcases add_cases hx with e | hx
          · obtain ⟨s1, s2⟩ := step_key (m := m) e
            rw [s1, s2]
            exact ⟨fun k hk => .inr (.inl (h1 k hk)), h3⟩
          · refine ⟨fun k hk => ?_, (hc x hx).2⟩
            rcases (hc x hx).1 k hk with h | ⟨u, hu, h⟩ | h
            · exact .inl (add_mono h)
            · rcases List.mem_cons.1 hu with rfl | hu
              · exact .inl (h ▸ add_true)
              · exact .inr (.inl ⟨u, h2 u hu, h⟩)
            · exact .inr (.inr h)
        cases he : m.step t with
        | die =>
          rw [fin_die hk hv he] at hh ⊢
          exact ih _ _ (by omega) (step S (by rw [he]; intro k hk; cases hk) (fun u h => h) (by rw [he]; rfl)) hh
        | go a =>
          rw [fin_go hk hv he] at hh ⊢
          exact ih _ _ (by simp only [List.length_cons]; omega) (step (a :: S) (by rw [he]; intro k hk; simp [Out.ks] at hk; exact ⟨a, .head _, hk.symm⟩) (fun u h => .tail _ h) (by rw [he]; rfl)) hh
        | fork a b =>
          rw [fin_fork hk hv he] at hh ⊢
          refine ih _ _ (by simp only [List.length_cons]; omega) (step (a :: b :: S) (by rw [he]; intro k hk; simp [Out.ks] at hk; rcases hk with hk | hk; exact ⟨a, .head _, hk.symm⟩; exact ⟨b, .tail _ (.head _), hk.symm⟩) (fun u h => .tail _ (.tail _ h)) (by rw [he]; rfl)) hh
        | hit sl =>
          rw [fin_hit hk hv he] at hh
          cases hh

theorem fin_skips {m : Mach} {W : Vis} {S2 : List Thr} : ∀ S1 : List Thr, (∀ t ∈ S1, W t.key = true ∨ t.key ∉ keys m) → fin m W (S1 ++ S2) = fin m W S2
  | [], _ => rfl
  | t :: S1, h => by
    have e : fin m W (t :: (S1 ++ S2)) = fin m W (S1 ++ S2) := by rw [fin]; simp [h t (.head _)]
    rw [List.cons_append, e, fin_skips S1 fun u hu => h u (.tail _ hu)]
/-- A run that begins with barren keys has the hits of a run that begins with none. -/
theorem fin_barren {m : Mach} {Z : Vis} (hZ : Closed m Z []) : ∀ (n : Nat) (V W : Vis) (S S' : List Thr), 3 * unvis m V + S.length ≤ n → (∀ k, W k = true ↔ (V k = true ∨ Z k = true)) →
    S'.filter (fun t => !Z t.key && decide (t.key ∈ keys m)) = S.filter (fun t => !Z t.key && decide (t.key ∈ keys m)) → (fin m W S').1 = (fin m V S).1 := by
  have zk : ∀ t : Thr, Z t.key = true → (∀ k ∈ (m.step t).ks, Z k = true ∨ k ∉ keys m) ∧ (m.step t).isHit = false := fun t ht => by
    obtain ⟨h1, h2⟩ := hZ t ht
    refine ⟨fun k hk => ?_, h2⟩
    rcases h1 k hk with h | ⟨u, hu, _⟩ | h
    · exact .inl h
    · cases hu
    · exact .inr h
  have pf : ∀ t : Thr, (Z t.key = true ∨ t.key ∉ keys m) → (!Z t.key && decide (t.key ∈ keys m)) = false := fun t h => by
    rcases h with h | h <;> simp [h]
  have allskip : ∀ (W : Vis) (A : List Thr), (∀ k, Z k = true → W k = true) → (∀ t ∈ A, (!Z t.key && decide (t.key ∈ keys m)) = false) → ∀ t ∈ A, W t.key = true ∨ t.key ∉ keys m := fun W A hw h t ht => by
    have := h t ht
    cases hz : Z t.key with
    | true => exact .inl (hw _ hz)
    | false => rw [hz] at this; right; simpa using this
  intro n
  induction n with
  | zero =>
    intro V W S S' hn hW hS
    have : S = [] := List.eq_nil_of_length_eq_zero (by omega)
    subst this
    have h0 := allskip W S' (fun k h => (hW k).2 (.inr h)) (fun t ht => by
      have := List.filter_eq_nil_iff.1 hS t ht
      simpa using this)
    have := fin_skips (S2 := []) S' h0
    rw [List.append_nil] at this
    rw [this, fin_nil, fin_nil]
  | succ n ih =>
    intro V W S S' hn hW hS
    cases S with
    | nil =>
      have h0 := allskip W S' (fun k h => (hW k).2 (.inr h)) (fun t ht => by
        have := List.filter_eq_nil_iff.1 hS t ht
        simpa using this)
      have := fin_skips (S2 := []) S' h0
      rw [List.append_nil] at this
      rw [this, fin_nil, fin_nil]
    | cons t S =>
      simp only [List.length_cons] at hn
      by_cases hp : (!Z t.key && decide (t.key ∈ keys m)) = true
      · -- the same thread on both sides
        have hkm : t.key ∈ keys m := by simp at hp; exact hp.2
        have hnz : Z t.key = false := by simp at hp; exact hp.1
        rw [List.filter_cons, if_pos hp] at hS
        obtain ⟨A, S2, rfl, hA, _, hS2⟩ := List.filter_eq_cons_iff.1 hS
        have hskip := fin_skips (m := m) (W := W) (S2 := t :: S2) A (allskip W A (fun k h => (hW k).2 (.inr h)) (fun u hu => by simpa using hA u hu))
        rw [hskip]
        by_cases hv : V t.key = true
        · rw [fin_skip hv, fin_skip ((hW _).2 (.inl hv))]
          exact ih V W S S2 (by omega) hW hS2
        · have hv : V t.key = false := by simpa using hv
          have hw : W t.key = false := by
            cases h : W t.key with
            | false => rfl
            | true =>
              rcases (hW _).1 h with h | h
              · rw [hv] at h; cases h
              · rw [hnz] at h; cases h
          have hlt := unvis_add hkm hv
          have hW2 : ∀ k, (W.add t.key) k = true ↔ ((V.add t.key) k = true ∨ Z k = true) := fun k => by
            unfold Vis.add
            by_cases e : k = t.key
            · simp [e]
            · simp only [if_neg e]; exact hW k
          cases he : m.step t with
          | die => rw [fin_die hkm hv he, fin_die hkm hw he]; exact ih _ _ S S2 (by omega) hW2 hS2
          | go a => rw [fin_go hkm hv he, fin_go hkm hw he]; exact ih _ _ (a :: S) (a :: S2) (by simp only [List.length_cons]; omega) hW2 (by rw [List.filter_cons, List.filter_cons, hS2])
          | fork a b => rw [fin_fork hkm hv he, fin_fork hkm hw he]; exact ih _ _ (a :: b :: S) (a :: b :: S2) (by simp only [List.length_cons]; omega) hW2 (by simp only [List.filter_cons, hS2])
          | hit sl => rw [fin_hit hkm hv he, fin_hit hkm hw he]; exact congrArg (sl :: ·) (ih _ _ S S2 (by omega) hW2 hS2)
      · have hp' : (!Z t.key && decide (t.key ∈ keys m)) = false := by simpa using hp
        rw [List.filter_cons, if_neg hp] at hS
        by_cases hs : V t.key = true ∨ t.key ∉ keys m
        · have e : fin m V (t :: S) = fin m V S := by rw [fin]; simp [hs]
          rw [e]
          exact ih V W S S' (by omega) hW hS
        · have hkm : t.key ∈ keys m := Classical.byContradiction fun h => hs (.inr h)
          have hv : V t.key = false := by simpa using fun h => hs (.inl h)
          have hz : Z t.key = true := by simpa [hkm] using hp'
          have hlt := unvis_add hkm hv
          obtain ⟨z1, z2⟩ := zk t hz
          have hW2 : ∀ k, W k = true ↔ ((V.add t.key) k = true ∨ Z k = true) := fun k => by
            rw [hW k]
            constructor
            · rintro (h | h)
              · exact .inl (add_mono h)
              · exact .inr h
            · rintro (h | h)
              · rcases add_cases h with rfl | h
                · exact .inr hz
                · exact .inl h
              · exact .inr h
          cases he : m.step t with
          | die => rw [fin_die hkm hv he]; exact ih _ _ S S' (by omega) hW2 hS
          | go a =>
            rw [fin_go hkm hv he]
            rw [he] at z1
            refine ih _ _ (a :: S) S' (by simp only [List.length_cons]; omega) hW2 ?_
            rw [List.filter_cons, if_neg (by rw [pf a (z1 _ (by simp [Out.ks]))]; simp)]
            exact hS
          | fork a b =>
            rw [fin_fork hkm hv he]
            rw [he] at z1
            refine ih _ _ (a :: b :: S) S' (by simp only [List.length_cons]; omega) hW2 ?_
            rw [List.filter_cons, if_neg (by rw [pf a (z1 _ (by simp [Out.ks]))]; simp), List.filter_cons, if_neg (by rw [pf b (z1 _ (by simp [Out.ks]))]; simp)]
            exact hS
          | hit sl => rw [he] at z2; cases z2
end Go.V
namespace Go.V
/-! ### Words; sorted sets -/
def wordI (s : ByteArray) (p : Int) : Bool := decide (0 ≤ p ∧ p < s.size) && wordB (B s p.toNat)
theorem wordI_at (s : ByteArray) (p : Nat) (h : p ≤ s.size) : (wordI s ((p : Int) - 1) != wordI s p) = wordAt s p := by
  unfold wordI wordAt
  congr 1
  · by_cases h0 : 0 < p
    · have e : ((p : Int) - 1).toNat = p - 1 := by omega
      rw [e, decide_eq_true (show 0 ≤ (p : Int) - 1 ∧ (p : Int) - 1 < s.size by omega), decide_eq_true h0]
    · rw [decide_eq_false (show ¬ (0 ≤ (p : Int) - 1 ∧ (p : Int) - 1 < s.size) by omega), decide_eq_false h0]; rfl
  · congr 1
    exact decide_eq_decide.2 (by omega)
theorem setE_ok' {rs : List Rng} (h : setE rs = 0) : ∀ k, k < rs.length → okR rs k := by
  unfold setE at h; split at h
  · assumption
  · cases h
theorem sets_sorted {rs : List Rng} (h : setE rs = 0) : ∀ j i, i < j → j < rs.length → (gR rs i).hi < (gR rs j).lo := by
  have hk := setE_ok' h
  intro j
  induction j with
  | zero => intro i hi; omega
  | succ j ih =>
    intro i hi hj
    have h1 := (hk (j + 1) hj).2.2.2 (by omega)
    rw [Nat.add_sub_cancel] at h1
    rcases Nat.lt_or_ge i j with h' | h'
    · have a := ih i h' (by omega)
      have b := (hk j (by omega)).2.2.1
      omega
    · obtain rfl : i = j := by omega
      omega
end Go.V
namespace Go.V
theorem half_ (k : Nat) : ((k : Nat) : Int).fdiv (2 ^ (min ((1 : Int).toNat) IntKind.u64.bits)) = ((k / 2 : Nat) : Int) := by
  show ((k : Nat) : Int).fdiv 2 = _
  rw [Int.fdiv_eq_ediv_of_nonneg _ (by omega)]
  omega
end Go.V
namespace Go.V
open Go.RowKit

/-! ### Rows of the call's own: reading, writing, cutting -/
theorem WS.weakAt {F : Hp} {M : List Chunk} {w0 w : World} (s : WS F M w0 w) (i : Nat) {c c' : Chunk} (hi : M[i]? = some c) (hb : ∀ b, c'.blk = some b → c.blk = some b) (ho : ∀ b o, c'.blk = some b → c.ok o → c'.ok o) : WS F (M.set i c') w0 w :=
  s.chg i hi rfl rfl rfl (Nat.le_refl _) (fun _ _ _ h => h) (fun b e => let ⟨o, h1, h2⟩ := s.get i hi b (hb b e); ⟨o, h1, ho b o e h2⟩) (fun b e => .inl (hb b e))
theorem WS.openRow {F : Hp} {M : List Chunk} {w0 w : World} (s : WS F M w0 w) (i : Nat) {b cap e sz : Nat} {xs : List Value} (hi : M[i]? = some (row (some b) cap e sz xs)) : ∃ sp, (xs ++ sp).length = cap * sz ∧ WS F (M.set i (blk b (xs ++ sp) e)) w0 w := by
  obtain ⟨sp, h1, h2⟩ := row_at (s.get i hi) rfl
  exact ⟨sp, h2, s.chg i hi rfl rfl rfl (Nat.le_refl _) (fun _ _ _ h => h) (fun b' e => by cases e; exact ⟨_, h1, rfl⟩) (fun b' e => .inl e)⟩
theorem set_set {α : Type} (M : List α) (i : Nat) (a b : α) : (M.set i a).set i b = M.set i b := by simp
theorem get_set {α : Type} {M : List α} {i : Nat} {x a : α} (h : M[i]? = some x) : (M.set i a)[i]? = some a := by
  have := (List.getElem?_eq_some_iff.1 h).1
  simp [this]
section
variable {P : Program} {n : Nat} {ops : Array Oper} {ρ : Env} {F : Hp} {M : List Chunk} {w0 : World} {ty : TypeId} {Q : Exit → Act → World → Prop}
theorem enterG {f : FuncId} {fn : Func} {c : Code} {args : List Value} {w : World} {R : Value → World → Prop} (n : Nat) (hf : P.funcs[f]? = some fn) (hn : fn.ntmps = n) (hb : fn.body = some c) (hl : Nat.ble args.length n = true)
    (hs : WS F M w0 w) (h : TC P n c (env0 0 args) F M w0 (bp P fn R)) : Calls P f args.toArray w (fun e w' => ∃ v, e = .returned v ∧ R v w') := by
  subst hn
  refine calls_of_wp hf hb ?_
  exact wp_mono (h _ w (Fit.start args fn.ntmps (by simpa [Nat.ble_eq] using hl)) hs) (bp_post fun v w' hv => ⟨v, rfl, hv⟩)
theorem cLabel {l : Nat} (h : TX n .normal ρ F M w0 Q) : TC P n (.label l) ρ F M w0 Q := fun a w f s => wp_label (h a w f s)
theorem qLdNRow {t : TypeId} {x : Operand} (i : Nat) {b o k cap sz : Nat} {xs vs : List Value} {e : TypeId} (hg : ∀ w, (isAgg t).run P w = .ok true w) (hz : ∀ w, (sizeOf t).run P w = .ok k w) (hx : evl ρ x = some (.pointer (some ⟨b, o, none⟩))) (hm : M[i]? = some (row (some b) cap e sz xs)) (hl : o + k ≤ xs.length) (hv : (xs.drop o).take k = vs) : Qv P n (.load t x) ty ρ F M w0 (.agg vs.toArray) := fun c w f s dst pos after guard => by
  subst hv
  simp [execOp, f.eval hx, Instr.loadAt, Instr.sureAddr, loadVar, hg, hz, run_loadCells P (row_atN (s.get i hm) hl)]
theorem qLd1Row {t : TypeId} {x : Operand} (i : Nat) {b o cap sz : Nat} {xs : List Value} {e : TypeId} {v : Value} (hg : ∀ w, (isAgg t).run P w = .ok false w) (hx : evl ρ x = some (.pointer (some ⟨b, o, none⟩))) (hm : M[i]? = some (row (some b) cap e sz xs)) (hv : xs[o]? = some v) : Qv P n (.load t x) ty ρ F M w0 v := fun c w f s dst pos after guard => by
  simp [execOp, f.eval hx, Instr.loadAt, Instr.sureAddr, loadVar, hg, at1_cell (row_at1 (s.get i hm) hv)]
theorem eStore1Row {t : TypeId} {x y : Operand} (i : Nat) {b o cap sz : Nat} {xs : List Value} {e : TypeId} {v : Value} (hz : ∀ w, (sizeOf t).run P w = .ok 1 w) (hx : evl ρ x = some (.pointer (some ⟨b, o, none⟩))) (hy : evl ρ y = some v) (h1 : v.oneCell' = true) (hm : M[i]? = some (row (some b) cap e sz xs)) (hl : o < xs.length) :
    Ef P n (.store t x y) ty ρ F M w0 (fun _ F' M' => F' = F ∧ M' = M.set i (row (some b) cap e sz (xs.set o v))) := fun a w f s dst pos after guard K Q h => by
  obtain ⟨sp, hlen, s'⟩ := s.openRow i hm
  refine eStore1 (P := P) (ty := ty) i hz hx hy h1 (get_set hm) (by simp; omega) a w f s' dst pos after guard K Q fun u F' M' w' ⟨e1, e2⟩ hw => ?_
  subst e1; subst e2
  refine h _ _ _ _ ⟨rfl, rfl⟩ ?_
  rw [set_set] at hw
  have := hw.weakAt i (c' := row (some b) cap e sz (xs.set o v)) (get_set hm) (fun b' e => e) (fun b' o' _ ho => by
    refine ⟨sp, ?_, by simpa using hlen⟩
    rw [ho, List.set_append_left _ _ hl])
  rwa [set_set] at this
theorem tStore1Row {pos : String} {after : Array Edge} {rest : List Oper} {t : TypeId} {x y : Operand} (i : Nat) {b o cap sz : Nat} {xs : List Value} {e : TypeId} {v : Value} (hz : ∀ w, (sizeOf t).run P w = .ok 1 w) (hx : evl ρ x = some (.pointer (some ⟨b, o, none⟩))) (hy : evl ρ y = some v) (h1 : v.oneCell' = true) (hm : M[i]? = some (row (some b) cap e sz xs)) (hl : o < xs.length)
    (h : TL P n ops rest ρ F (M.set i (row (some b) cap e sz (xs.set o v))) w0 Q) : TL P n ops (⟨none, .store t x y, ty, pos, after, none⟩ :: rest) ρ F M w0 Q :=
  tE0 (eStore1Row i hz hx hy h1 hm hl) fun _ _ _ ⟨h2, h3⟩ => by subst h2; subst h3; exact h
/-- The first cells of a row. -/
theorem qSliceRow {t e rt : TypeId} {x y : Operand} {b l cp sz : Nat} {j : Nat} {k : IntKind} {z : Int} (ht : ∀ w, (underlying t).run P w = .ok (.slice e) w) (hz : ∀ w, (sizeOf e).run P w = .ok sz w) (hx : evl ρ x = some (rowV (some b) l cp))
    (hy : evl ρ y = some (.int k z)) (hzj : z = (j : Int)) (hj : j ≤ cp) : Qv P n (.slice t x none (some y) none) rt ρ F M w0 (rowV (some b) j cp) := by
  subst hzj
  have := qSliceLH (P := P) (n := n) (ρ := ρ) (F := F) (M := M) (w0 := w0) (rt := rt) (x := x) (lo := none) (hi := some y) (i := 0) (j := j) ht hz hx ⟨fun _ e => (by cases e), fun _ => rfl⟩ ⟨fun _ e => (by cases e; exact ⟨_, hy⟩), fun e => (by cases e)⟩ (Nat.zero_le _) hj
  simp only [Nat.zero_mul, Nat.add_zero, Nat.sub_zero, ite_self] at this
  exact this
theorem row_cut {A : Option Nat} {cap e sz : Nat} {xs ys : List Value} {o : Obj} (h : (row A cap e sz (xs ++ ys)).ok o) : (row A cap e sz xs).ok o := by
  obtain ⟨sp, h1, h2⟩ := h
  exact ⟨ys ++ sp, by rw [← List.append_assoc]; exact h1, by rw [← List.append_assoc]; exact h2⟩
theorem WS.cutRow {w : World} (s : WS F M w0 w) (i : Nat) {A : Option Nat} {cap e sz : Nat} {xs ys : List Value} (hi : M[i]? = some (row A cap e sz (xs ++ ys))) : WS F (M.set i (row A cap e sz xs)) w0 w :=
  s.weakAt i hi (fun _ e => e) fun _ _ _ h => row_cut h

/-! ### `clear` -/
theorem eClear {t e : TypeId} {x : Operand} (i : Nat) {b k c : Nat} {cs : List Value} {z : Value} (ht : ∀ w, (underlying t).run P w = .ok (.slice e) w) (hzv : ∀ w, (zeroValue e).run P w = .ok z w) (hz1 : z.cells = #[z]) (h1 : z.oneCell' = true) (hx : evl ρ x = some (.slice (some ⟨b, 0, none⟩) k c)) (hm : M[i]? = some (blk b cs e)) (hk : 0 < k) (hl : cs.length = k) :
    Ef P n (.call { callee := .builtin .clear, args := #[x], argTypes := #[t] }) ty ρ F M w0 (fun _ F' M' => F' = F ∧ M' = M.set i (blk b (List.replicate k z) e)) := fun a w f s dst pos after guard K Q h => by
  obtain ⟨_, hb, rfl⟩ := s.get i hm b rfl
  have hzc : Builtin.zeroCells z.cells k = (List.replicate k z).toArray := by
    have := zcells_arr z.cells 1 (by rw [hz1]; rfl) k
    rw [Nat.mul_one] at this
    have e1 : z.cells.toList = [z] := by rw [hz1]
    rw [e1, zcells_one] at this
    rw [← this]
    simp [Builtin.zeroCells, hz1]
  obtain ⟨w', r1, r2, r3, r4, r5, r6, r7⟩ := run_storeCells P b 0 e (List.replicate k z) 0 w cs hb (by simp; omega) (fun v hv => by rw [(List.mem_replicate.1 hv).2]; exact h1)
  have hkk : ∀ A c', (match (.slice e : TypeDesc), (.slice (some A) k c' : Value) with | _, .slice _ 0 _ => true | _, _ => false) = false := fun A c' => by cases k with | zero => omega | succ k => rfl
  show Oper.upon P _ a K Q ((execOp a.eval ⟨dst, .call { callee := .builtin .clear, args := #[x], argTypes := #[t] }, ty, pos, after, guard⟩).run P w)
  have : (execOp a.eval ⟨dst, .call { callee := .builtin .clear, args := #[x], argTypes := #[t] }, ty, pos, after, guard⟩).run P w = .ok (.value (.tuple #[])) w' := by
    cases k with
    | zero => omega
    | succ k =>
      have r1' : (storeCells ⟨b, 0, none⟩ (List.replicate (k + 1) z)).run P w = .ok () w' := by simpa using r1
      simp [execOp, resolve, invoke, builtin, f.eval hx, Builtin.clear_, ht, hzv, hzc, r1']
  rw [this]
  refine h _ _ _ _ ⟨rfl, rfl⟩ (s.chg i hm r4 r5 r6 (by rw [r7]; exact Nat.le_refl _) (fun k' o' hk' he => by rw [r3 k' (fun e => hk' (by rw [e]; rfl))]; exact he) ?_ (fun b' hb' => .inl hb'))
  intro b' hb'
  cases hb'
  refine ⟨_, r2, ?_⟩
  congr 2
  simp [hl]
theorem tClear {pos : String} {after : Array Edge} {rest : List Oper} {t e : TypeId} {x : Operand} (i : Nat) {b k c : Nat} {cs : List Value} {z : Value} (ht : ∀ w, (underlying t).run P w = .ok (.slice e) w) (hzv : ∀ w, (zeroValue e).run P w = .ok z w) (hz1 : z.cells = #[z]) (h1 : z.oneCell' = true) (hx : evl ρ x = some (.slice (some ⟨b, 0, none⟩) k c)) (hm : M[i]? = some (blk b cs e)) (hk : 0 < k) (hl : cs.length = k)
    (h : TL P n ops rest ρ F (M.set i (blk b (List.replicate k z) e)) w0 Q) : TL P n ops (⟨none, .call { callee := .builtin .clear, args := #[x], argTypes := #[t] }, ty, pos, after, none⟩ :: rest) ρ F M w0 Q :=
  tE0 (eClear i ht hzv hz1 h1 hx hm hk hl) fun _ _ _ ⟨h2, h3⟩ => by subst h2; subst h3; exact h
end

/-! ### Units and places, in either mode -/
def mU (raw : Bool) (s : ByteArray) : List Int := if raw then (List.range s.size).map fun i => (B s i : Int) else uL s
def mP (raw : Bool) (s : ByteArray) : List Int := if raw then (List.range (s.size + 1)).map (fun i : Nat => (i : Int)) else pL s
theorem mP_len (raw : Bool) (s : ByteArray) : (mP raw s).length = (mU raw s).length + 1 := by
  unfold mP mU; cases raw <;> simp [pL, uL]
theorem mU_len (raw : Bool) (s : ByteArray) : (mU raw s).length ≤ s.size := by
  unfold mU; cases raw
  · simp [uL]; exact pairs_len s
  · simp
def CutF (raw : Bool) (s : ByteArray) (v : Value) (h : Hp) : Prop := ∃ A c D d, v = .tuple #[.slice A (mU raw s).length c, .slice D ((mU raw s).length + 1) d] ∧ RdI h .i32 A (mU raw s).length (mU raw s) ∧ RdI h .i64 D ((mU raw s).length + 1) (mP raw s)
theorem CutF.mono {raw : Bool} {s : ByteArray} (v : Value) (h h' : Hp) (k : Sub h h') (x : CutF raw s v h) : CutF raw s v h' := let ⟨A, c, D, d, h1, h2, h3⟩ := x; ⟨A, c, D, d, h1, h2.mono k, h3.mono k⟩
end Go.V
namespace Go.V

/-! ### Bits in words -/
def tb (ws : List Nat) (k : Nat) : Bool := (ws.getD (k / 64) 0).testBit (k % 64)
def mark (ws : List Nat) (k : Nat) : List Nat := ws.set (k / 64) (ws.getD (k / 64) 0 ||| 2 ^ (k % 64))
theorem mark_len (ws : List Nat) (k : Nat) : (mark ws k).length = ws.length := by simp [mark]
theorem tb_mark {ws : List Nat} {k j : Nat} (hk : k / 64 < ws.length) : tb (mark ws k) j = (decide (j = k) || tb ws j) := by
  unfold tb mark
  by_cases h : k / 64 = j / 64
  · rw [← h]
    have e : ((ws.set (k / 64) (ws.getD (k / 64) 0 ||| 2 ^ (k % 64))).getD (k / 64) 0) = ws.getD (k / 64) 0 ||| 2 ^ (k % 64) := by
      simp [List.getD, List.getElem?_set, hk]
    rw [e, Nat.testBit_or, Nat.testBit_two_pow, Bool.or_comm]
    congr 1
    exact decide_eq_decide.2 (by omega)
  · have e : ((ws.set (k / 64) (ws.getD (k / 64) 0 ||| 2 ^ (k % 64))).getD (j / 64) 0) = ws.getD (j / 64) 0 := by
      simp [List.getD, List.getElem?_set_ne h]
    rw [e, decide_eq_false (by omega), Bool.false_or]
def small (ws : List Nat) : Prop := ∀ i, ws.getD i 0 < 2 ^ 64
theorem mark_small {ws : List Nat} {k : Nat} (h : small ws) : small (mark ws k) := by
  intro i
  unfold mark
  simp only [List.getD, List.getElem?_set]
  by_cases e : k / 64 = i
  · rw [if_pos e]
    by_cases hl : i < ws.length
    · rw [if_pos (by omega)]
      simp only [Option.getD_some]
      exact Nat.or_lt_two_pow (h _) (Nat.pow_lt_pow_right (by omega) (Nat.mod_lt _ (by omega)))
    · rw [if_neg (by omega)]; simp
  · rw [if_neg e]; exact h i
theorem wu64n {x : Nat} (h : x < 2 ^ 64) : IntKind.u64.wrap (x : Int) = x := wu64 (by omega) (by omega)
theorem shl_u64 {k : Nat} (h : k < 64) : IntKind.u64.wrap ((1 : Int) * 2 ^ (min ((k : Nat) : Int).toNat IntKind.u64.bits)) = ((2 ^ k : Nat) : Int) := by
  have : min ((k : Nat) : Int).toNat IntKind.u64.bits = k := by show min k 64 = k; omega
  rw [this, Int.one_mul]
  have e : ((2 : Int) ^ k) = ((2 ^ k : Nat) : Int) := by push_cast; rfl
  rw [e]
  exact wu64n (Nat.pow_lt_pow_right (by omega) h)
theorem bv_and {a b : Nat} (ha : a < 2 ^ 64) (hb : b < 2 ^ 64) : IntKind.u64.wrap ((BitVec.ofInt 64 (a : Int) &&& BitVec.ofInt 64 (b : Int)).toNat) = ((a &&& b : Nat) : Int) := by
  rw [BitVec.toNat_and, BitVec.ofInt_natCast, BitVec.ofInt_natCast, BitVec.toNat_ofNat, BitVec.toNat_ofNat, Nat.mod_eq_of_lt ha, Nat.mod_eq_of_lt hb]
  exact wu64n (Nat.and_lt_two_pow _ hb)
theorem bv_or {a b : Nat} (ha : a < 2 ^ 64) (hb : b < 2 ^ 64) : IntKind.u64.wrap ((BitVec.ofInt 64 (a : Int) ||| BitVec.ofInt 64 (b : Int)).toNat) = ((a ||| b : Nat) : Int) := by
  rw [BitVec.toNat_or, BitVec.ofInt_natCast, BitVec.ofInt_natCast, BitVec.toNat_ofNat, BitVec.toNat_ofNat, Nat.mod_eq_of_lt ha, Nat.mod_eq_of_lt hb]
  exact wu64n (Nat.or_lt_two_pow ha hb)
theorem and_two (a k : Nat) : a &&& 2 ^ k = if a.testBit k then 2 ^ k else 0 := by
  apply Nat.eq_of_testBit_eq
  intro i
  rw [Nat.testBit_and, Nat.testBit_two_pow]
  by_cases h : k = i
  · subst h
    cases h' : a.testBit k <;> simp [Nat.testBit_two_pow]
  · rw [decide_eq_false h, Bool.and_false]
    cases h' : a.testBit k <;> simp [Nat.testBit_two_pow, h]
theorem and_bit {a k : Nat} : (((a &&& 2 ^ k : Nat) : Int) != 0) = a.testBit k := by
  rw [and_two]
  cases a.testBit k
  · rfl
  · have : 0 < (2 : Nat) ^ k := Nat.two_pow_pos k
    rw [if_pos rfl, bne_iff_ne]
    omega

/-! ### Levels and their numbers -/
def rankOf (mk : Nat → Bool) (l : Nat) : Nat := ((List.range l).filter mk).length
theorem rank_succ (mk : Nat → Bool) (l : Nat) : rankOf mk (l + 1) = rankOf mk l + (if mk l then 1 else 0) := by
  unfold rankOf
  rw [List.range_succ, List.filter_append, List.length_append]
  congr 1
  cases h : mk l <;> simp [h]
theorem rank_mono (mk : Nat → Bool) {a b : Nat} (h : a ≤ b) : rankOf mk a ≤ rankOf mk b := by
  induction b with
  | zero => obtain rfl : a = 0 := by omega
            exact Nat.le_refl _
  | succ b ih =>
    rcases Nat.lt_or_ge b a with h' | h'
    · obtain rfl : a = b + 1 := by omega
      exact Nat.le_refl _
    · have := ih h'; rw [rank_succ]; omega
theorem rank_lt (mk : Nat → Bool) {a b : Nat} (h : a < b) (ha : mk a = true) : rankOf mk a < rankOf mk b := by
  have := rank_mono mk (show a + 1 ≤ b from h)
  rw [rank_succ, if_pos ha] at this
  omega
theorem rank_inj (mk : Nat → Bool) {a b : Nat} (ha : mk a = true) (hb : mk b = true) (h : rankOf mk a = rankOf mk b) : a = b := by
  rcases Nat.lt_trichotomy a b with h' | h' | h'
  · have := rank_lt mk h' ha; omega
  · exact h'
  · have := rank_lt mk h' hb; omega
theorem rank_le (mk : Nat → Bool) (l : Nat) : rankOf mk l ≤ l := by
  unfold rankOf
  have := List.length_filter_le mk (List.range l)
  simpa using this
/-- The levels of a program. -/
def mkOf (ins : List Ins) (l : Nat) : Bool := decide (l = 64) || ins.any fun x => decide (x.op = 5) && decide (x.n = (l : Int))

/-! ### The number of a key -/
def pkey (D f L : Nat) (mk : Nat → Bool) (k : Key) : Nat := (k.1 * D + k.2.1 - f) * L + rankOf mk k.2.2
structure KeyOk (n D f : Nat) (mk : Nat → Bool) (k : Key) : Prop where
  at_ : k.1 < n
  lo : f ≤ k.2.1
  hi : k.2.1 < f + D
  lv : k.2.2 ≤ 64
  mkd : mk k.2.2 = true
theorem mul_inj {a b r s L : Nat} (hr : r < L) (hs : s < L) (h : a * L + r = b * L + s) : a = b ∧ r = s := by
  have h1 : (a * L + r) / L = a := by rw [Nat.mul_comm, Nat.mul_add_div (by omega), Nat.div_eq_of_lt hr, Nat.add_zero]
  have h2 : (b * L + s) / L = b := by rw [Nat.mul_comm, Nat.mul_add_div (by omega), Nat.div_eq_of_lt hs, Nat.add_zero]
  have : a = b := by rw [← h1, ← h2, h]
  subst this
  exact ⟨rfl, by omega⟩
theorem pkey_inj {n D f : Nat} {mk : Nat → Bool} {k j : Key} (hk : KeyOk n D f mk k) (hj : KeyOk n D f mk j) (h : pkey D f (rankOf mk 65) mk k = pkey D f (rankOf mk 65) mk j) : k = j := by
  obtain ⟨a, b, c⟩ := k
  obtain ⟨a', b', c'⟩ := j
  obtain ⟨h1, h2, h3, h4, h5⟩ := hk
  obtain ⟨g1, g2, g3, g4, g5⟩ := hj
  simp only at *
  unfold pkey at h
  simp only at h
  have r1 := rank_lt mk (show c < 65 by omega) h5
  have r2 := rank_lt mk (show c' < 65 by omega) g5
  obtain ⟨e1, e2⟩ := mul_inj r1 r2 h
  have e3 := rank_inj mk h5 g5 e2
  have e4 : a * D + (b - f) = a' * D + (b' - f) := by omega
  obtain ⟨e5, e6⟩ := mul_inj (show b - f < D by omega) (show b' - f < D by omega) e4
  subst e5; subst e3
  have : b = b' := by omega
  subst this
  rfl
theorem pkey_lt {n D f : Nat} {mk : Nat → Bool} {k : Key} (hk : KeyOk n D f mk k) : pkey D f (rankOf mk 65) mk k < n * D * rankOf mk 65 := by
  obtain ⟨a, b, c⟩ := k
  obtain ⟨h1, h2, h3, h4, h5⟩ := hk
  simp only at *
  unfold pkey
  simp only
  have r1 := rank_lt mk (show c < 65 by omega) h5
  have e : a * D + b - f + 1 ≤ n * D := by
    have := Nat.mul_le_mul_right D (show a + 1 ≤ n from h1)
    rw [Nat.add_mul] at this
    omega
  have := Nat.mul_le_mul_right (rankOf mk 65) e
  rw [Nat.add_mul] at this
  omega
/-- The words say what has been visited. -/
def VisRel (n D f : Nat) (mk : Nat → Bool) (ws : List Nat) (V : Vis) : Prop := ∀ k, KeyOk n D f mk k → tb ws (pkey D f (rankOf mk 65) mk k) = V k
theorem VisRel.mark {n D f : Nat} {mk : Nat → Bool} {ws : List Nat} {V : Vis} {k : Key} (h : VisRel n D f mk ws V) (hk : KeyOk n D f mk k) (hl : n * D * rankOf mk 65 < 64 * ws.length) : VisRel n D f mk (mark ws (pkey D f (rankOf mk 65) mk k)) (V.add k) := by
  intro j hj
  have := pkey_lt hk
  rw [tb_mark (by omega), h j hj]
  unfold Vis.add
  by_cases e : j = k
  · subst e; simp
  · rw [if_neg e, decide_eq_false (fun h' => e (pkey_inj hj hk h')), Bool.false_or]
end Go.V
namespace Go.V
theorem mark_same {ws : List Nat} {k : Nat} (h : tb ws k = true) : mark ws k = ws := by
  unfold mark
  have e : ws.getD (k / 64) 0 ||| 2 ^ (k % 64) = ws.getD (k / 64) 0 := by
    apply Nat.eq_of_testBit_eq
    intro i
    rw [Nat.testBit_or, Nat.testBit_two_pow]
    by_cases hi : k % 64 = i
    · subst hi
      unfold tb at h
      rw [h]; rfl
    · rw [decide_eq_false hi, Bool.or_false]
  rw [e]
  apply List.ext_getElem?
  intro i
  rw [List.getElem?_set]
  split
  · rename_i hi
    subst hi
    split
    · rename_i hl; simp [List.getD, hl]
    · rename_i hl; rw [List.getElem?_eq_none (by omega)]
  · rfl
theorem mulN {a b c : Nat} (h : c = a * b) (hb : c < 4611686018427387904) : IntKind.i64.wrap ((a : Int) * (b : Int)) = (c : Int) := by
  subst h
  rw [← Int.natCast_mul]
  exact w64 (by omega) (by omega)
theorem remN (a b : Nat) : ((a : Int)).tmod (b : Int) = ((a % b : Nat) : Int) := by
  rw [Int.tmod_eq_emod_of_nonneg (by omega)]; rfl
theorem quoN (a b : Nat) (h : a < 4611686018427387904) : IntKind.i64.wrap (((a : Int)).tdiv (b : Int)) = ((a / b : Nat) : Int) := by
  rw [Int.tdiv_eq_ediv_of_nonneg (by omega), ← Int.natCast_ediv]
  have : a / b ≤ a := Nat.div_le_self _ _
  generalize a / b = q at *
  exact w64 (x := (q : Int)) (by omega) (by omega)
abbrev u64c (ws : List Nat) : List Value := ws.map fun x => .int .u64 (x : Nat)
theorem u64c_at {ws : List Nat} {i : Nat} (h : i < ws.length) : (u64c ws)[0 + i * 1]? = some (.int .u64 (ws.getD i 0 : Nat)) := by
  simp [u64c, List.getD, h]
theorem u64c_set {ws : List Nat} {i x : Nat} : (u64c ws).set (0 + i * 1) (.int .u64 (x : Nat)) = u64c (ws.set i x) := by
  simp [u64c, List.map_set]

/-- The engine, as it lies in memory. -/
structure Eng (h : Hp) (be bb : Nat) (p : Prg) (s : ByteArray) (f wl : Nat) : Prop where
  insts : ∃ A c, at1 h be 0 = some (.slice A p.insts.length c) ∧ RdP h A p.insts.length p.insts
  names : ∃ B c, at1 h be 1 = some (.slice B p.names.length c)
  raw : at1 h be 2 = some (.bool p.raw)
  text : at1 h be 3 = some (.string s)
  units : ∃ A c, at1 h be 4 = some (.slice A (mU p.raw s).length c) ∧ RdI h .i32 A (mU p.raw s).length (mU p.raw s)
  places : ∃ A c, at1 h be 5 = some (.slice A ((mU p.raw s).length + 1) c) ∧ RdI h .i64 A ((mU p.raw s).length + 1) (mP p.raw s)
  ranks : ∀ l, l ≤ 64 → mkOf p.insts l = true → at1 h be (6 + l) = some (.int .i64 (rankOf (mkOf p.insts) l : Nat))
  levels : at1 h be 71 = some (.int .i64 (rankOf (mkOf p.insts) 65 : Nat))
  first : at1 h be 72 = some (.int .i64 (f : Nat))
  been : at1 h be 73 = some (.slice (some ⟨bb, 0, none⟩) wl wl)
theorem Eng.mono {h h' : Hp} {be bb : Nat} {p : Prg} {s : ByteArray} {f wl : Nat} (e : Eng h be bb p s f wl) (k : Sub h h') : Eng h' be bb p s f wl where
  insts := let ⟨A, c, h1, h2⟩ := e.insts; ⟨A, c, at1_mono k h1, h2.mono k⟩
  names := let ⟨A, c, h1⟩ := e.names; ⟨A, c, at1_mono k h1⟩
  raw := at1_mono k e.raw
  text := at1_mono k e.text
  units := let ⟨A, c, h1, h2⟩ := e.units; ⟨A, c, at1_mono k h1, h2.mono k⟩
  places := let ⟨A, c, h1, h2⟩ := e.places; ⟨A, c, at1_mono k h1, h2.mono k⟩
  ranks := fun l h1 h2 => at1_mono k (e.ranks l h1 h2)
  levels := at1_mono k e.levels
  first := at1_mono k e.first
  been := at1_mono k e.been
end Go.V
namespace Go.V
theorem rdI_atN {h : Hp} {b o n : Nat} {k : IntKind} {xs : List Int} (hl : xs.length = n) (h0 : 0 < n) (hx : ∀ i, i < n → at1 h b (o + i * 1) = some (.int k (gZ xs i))) : atN h b o (n * 1) = some (xs.map (.int k ·)) := by
  have h1 := hx (n - 1) (by omega)
  unfold at1 at h1
  cases hb : h b with
  | none => rw [hb] at h1; cases h1
  | some obj =>
    cases obj with
    | cells cs e fr =>
      have key : ∀ i, i < n → cs[o + i]? = some (.int k (gZ xs i)) := fun i hi => by
        have := hx i hi
        simpa [at1, hb] using this
      have hsz : o + (n - 1) < cs.size := (Array.getElem?_eq_some_iff.1 (key (n - 1) (by omega))).1
      simp only [atN, hb]
      rw [if_pos (by omega)]
      congr 1
      apply List.ext_getElem?
      intro i
      rw [List.getElem?_take]
      split
      · rename_i hi
        rw [List.getElem?_drop]
        have := key i (by omega)
        rw [List.getElem?_map, show xs[i]? = some (gZ xs i) by rw [List.getElem?_eq_getElem (by omega), gZ_at]]
        simpa using this
      · rename_i hi
        rw [List.getElem?_eq_none (by rw [List.length_map]; omega)]
    | _ => rw [hb] at h1; cases h1
end Go.V
namespace Go.V

/-! ### The best of the hits -/
def upd (b : Option (List Int)) (s : List Int) : Option (List Int) := match b with
  | none => some s
  | some b => if gZ b 1 < gZ s 1 then some s else some b
def Bst (longest : Bool) (hits : List (List Int)) : Option (List Int) := if longest then hits.foldl upd none else hits.head?

/-! ### A run over a text -/
def machOf (p : Prg) (s : ByteArray) : Mach := ⟨p.insts, mU p.raw s, mP p.raw s, s⟩
def startT (p : Prg) (s : ByteArray) (bd : Nat) : Thr := ⟨0, bd, 64, (List.replicate (2 * p.names.length + 2) (-1)).set 0 (gZ (mP p.raw s) bd)⟩
/-- A thread that waits, with the slice of its slots. -/
def tc (x : Thr × Value) : List Value := [.int .i64 x.1.at_, .int .i64 x.1.bd, .int .i64 x.1.lv, x.2]
structure TOk (h : Hp) (p : Prg) (D f : Nat) (x : Thr × Value) : Prop where
  key : KeyOk p.insts.length D f (mkOf p.insts) x.1.key
  len : x.1.sl.length = 2 * p.names.length + 2
  sl : ∃ A c, x.2 = .slice A (2 * p.names.length + 2) c ∧ RdI h .i64 A (2 * p.names.length + 2) x.1.sl
theorem TOk.mono {h h' : Hp} {p : Prg} {D f : Nat} {x : Thr × Value} (t : TOk h p D f x) (k : Sub h h') : TOk h' p D f x := ⟨t.key, t.len, let ⟨A, c, h1, h2⟩ := t.sl; ⟨A, c, h1, h2.mono k⟩⟩
theorem flat_len (l : List (Thr × Value)) : (l.flatMap tc).length = l.length * 4 := by
  induction l with
  | nil => rfl
  | cons a l ih => simp only [List.flatMap_cons, List.length_append, ih, List.length_cons]; simp [tc]; omega
theorem flat_last (l : List (Thr × Value)) (x : Thr × Value) : (((l ++ [x]).flatMap tc).drop (0 + l.length * 4)).take 4 = tc x := by
  rw [List.flatMap_append, Nat.zero_add, ← flat_len, List.drop_left]
  rfl
theorem flat_snoc (l : List (Thr × Value)) (x : Thr × Value) : (l ++ [x]).flatMap tc = l.flatMap tc ++ tc x := by simp
/-- The threads, the next one first. -/
def thrs (l : List (Thr × Value)) : List Thr := (l.map (·.1)).reverse
theorem thrs_snoc (l : List (Thr × Value)) (x : Thr × Value) : thrs (l ++ [x]) = x.1 :: thrs l := by simp [thrs]

structure BSt where
  F1 : Hp
  ws : List Nat
  V : Vis
  stk : List (Thr × Value)
  A : Nat
  cap : Nat
  best : Option (List Int)
  Ab : Option Nat
  cb : Nat
def roomN (p : Prg) (s : ByteArray) : Nat := p.insts.length * (mP p.raw s).length * 65
structure BOk (F0 : Hp) (p : Prg) (s : ByteArray) (D f wl : Nat) (longest : Bool) (r : List (List Int) × Vis) (st : BSt) : Prop where
  sub : Sub F0 st.F1
  wl_ : st.ws.length = wl
  small_ : small st.ws
  vis : VisRel p.insts.length D f (mkOf p.insts) st.ws st.V
  stk_ : ∀ x ∈ st.stk, TOk st.F1 p D f x
  run : ∃ pre, r = (pre ++ (fin (machOf p s) st.V (thrs st.stk)).1, (fin (machOf p s) st.V (thrs st.stk)).2) ∧ st.best = pre.foldl upd none ∧ (longest = false → pre = [])
  bst : (st.best = none → st.Ab = none ∧ st.cb = 0) ∧ ∀ b, st.best = some b → b.length = 2 * p.names.length + 2 ∧ st.Ab ≠ none
  len : st.stk.length + unvis (machOf p s) st.V ≤ roomN p s + 1
theorem KeyOk.mem {p : Prg} {s : ByteArray} {D f : Nat} {mk : Nat → Bool} {k : Key} (h : KeyOk p.insts.length D f mk k) (hD : D + f = (mU p.raw s).length + 1) : k ∈ keys (machOf p s) := by
  have := mP_len p.raw s
  refine mem_keys.2 ⟨h.at_, ?_, ?_⟩
  · have := h.hi; show k.2.1 < (mP p.raw s).length; omega
  · have := h.lv; omega
theorem roomN_le {p : Prg} {s : ByteArray} (hn : p.insts.length ≤ 20000) (hs : s.size ≤ 2000000) : roomN p s ≤ 20000 * 2000001 * 65 := by
  have h1 := mP_len p.raw s
  have h2 := mU_len p.raw s
  unfold roomN
  exact Nat.mul_le_mul_right 65 (Nat.mul_le_mul hn (by omega))

/-- What a sound instruction has. -/
theorem inst_nat {x : Ins} {n g : Nat} {raw : Bool} (h : instOk x n g raw) : ∃ a b c : Nat, x.x = (a : Int) ∧ x.y = (b : Int) ∧ x.n = (c : Int) ∧ 1 ≤ x.op ∧ x.op ≤ 9 ∧ (x.op ≠ 7 → x.op ≠ 8 → a < n) ∧ (x.op = 2 → b < n) ∧ (x.op = 1 → setE x.set = 0) ∧ (x.op = 3 → 2 ≤ c ∧ c < 2 * g + 2) ∧ (x.op = 4 → 1 ≤ c ∧ c ≤ 8 ∧ (raw = false → c ≤ 6)) ∧ (x.op = 5 → c ≤ 63) := by
  refine ⟨x.x.toNat, x.y.toNat, x.n.toNat, ?_⟩
  unfold instOk at h
  cases raw <;> simp only [Bool.false_eq_true, false_and, or_false, true_and] at h <;>
    exact ⟨by omega, by omega, by omega, by omega, by omega, fun _ _ => by omega, fun _ => by omega, fun _ => by omega, fun _ => by omega, fun _ => ⟨by omega, by omega, fun _ => by first | omega | contradiction⟩, fun _ => by omega⟩
theorem mk_of {ins : List Ins} {k c : Nat} (hk : k < ins.length) (h5 : (gI ins k).op = 5) (hn : (gI ins k).n = (c : Int)) : mkOf ins c = true := by
  unfold mkOf
  rw [Bool.or_eq_true]
  right
  rw [List.any_eq_true]
  exact ⟨gI ins k, gI_mem hk, by simp [h5, hn]⟩
theorem mk_64 (ins : List Ins) : mkOf ins 64 = true := by simp [mkOf]
end Go.V
namespace Go.V
/-! ### Places are borders -/
/-- Between two borders: in the bytes of a character. -/
theorem chr_tail {s : ByteArray} {p q : Nat} (h1 : p < q) (h2 : q < p + (chr s p).2) : (chr s q).2 = 0 := by
  have hb := B_lt s q
  have key : ∀ m p v r, tailV s p m v = some r → ∀ q, p ≤ q → q < p + m → 128 ≤ B s q ∧ B s q ≤ 191 := by
    intro m
    induction m with
    | zero => intro p v r _ q h1 h2; omega
    | succ m ih =>
      intro p v r h q h1 h2
      rw [tailV_succ] at h
      split at h
      · rename_i hc
        rcases Nat.lt_or_ge p q with h' | h'
        · exact ih _ _ _ h q (by omega) (by omega)
        · obtain rfl : q = p := by omega
          exact hc
      · cases h
  have hn := nOf_le (B s p)
  unfold chr at h2
  split at h2
  · simp only at h2; omega
  · split at h2
    · simp only at h2; omega
    · split at h2
      · simp only at h2; omega
      · rename_i v ht
        split at h2
        · simp only at h2; omega
        · simp only at h2
          have := key _ _ _ _ ht q (by omega) (by omega)
          rw [chr_bad (by omega) (by omega)]
/-- No character goes on beyond a place that the units come to. -/
def clean (s : ByteArray) (p : Nat) : Prop := ∀ q, q < p → q + (chr s q).2 ≤ p
theorem clean_zero (s : ByteArray) : clean s 0 := fun q h => by omega
theorem clean_next {s : ByteArray} {p : Nat} (h : clean s p) : clean s (p + (unt s p).2) := by
  intro q hq
  rcases Nat.lt_trichotomy q p with h' | h' | h'
  · have := h q h'; omega
  · subst h'
    unfold unt
    split
    · rename_i hz; rw [hz]; omega
    · omega
  · have hu : (unt s p).2 = (chr s p).2 := by
      unfold unt at hq ⊢
      split
      · rename_i hz; rw [if_pos hz] at hq; simp only at hq; omega
      · rfl
    rw [chr_tail h' (by omega)]; omega
theorem clean_brd {s : ByteArray} {p : Nat} (h : clean s p) (hp : p ≤ s.size) : brd s (p : Int) := by
  refine ⟨by omega, by omega, ?_, ?_, ?_⟩
  all_goals rw [Int.toNat_natCast]; intro hq
  · have := h (p - 1) (by omega); omega
  · have := h (p - 2) (by omega); omega
  · have := h (p - 3) (by omega); omega
theorem uns_clean {s : ByteArray} : ∀ k p, clean s p → p ≤ s.size → ∀ x ∈ uns s k p, clean s x.1 ∧ x.1 ≤ s.size
  | 0, p, _, _, x, hx => by simp [uns] at hx
  | k + 1, p, hc, hp, x, hx => by
    simp only [uns] at hx
    split at hx
    · rename_i hlt
      rcases List.mem_cons.1 hx with rfl | hx
      · exact ⟨hc, hp⟩
      · exact uns_clean k _ (clean_next hc) (unt_in hlt) x hx
    · cases hx
theorem uns_end {s : ByteArray} : ∀ k p, clean s p → p ≤ s.size → s.size - p ≤ k → clean s s.size
  | 0, p, hc, hp, hk => by
    obtain rfl : p = s.size := by omega
    exact hc
  | k + 1, p, hc, hp, hk => by
    by_cases hlt : p < s.size
    · have := unt_le s p
      exact uns_end k _ (clean_next hc) (unt_in hlt) (by omega)
    · obtain rfl : p = s.size := by omega
      exact hc
theorem place_nat {s : ByteArray} {raw : Bool} {i : Nat} (h : i < (mP raw s).length) : ∃ q : Nat, gZ (mP raw s) i = (q : Int) ∧ q ≤ s.size ∧ (raw = false → brd s (q : Int)) := by
  have hm : gZ (mP raw s) i ∈ mP raw s := gZ_at h ▸ List.getElem_mem h
  generalize gZ (mP raw s) i = z at hm
  unfold mP at hm
  cases raw
  · simp only [Bool.false_eq_true, if_false, pL, List.mem_append, List.mem_map, List.mem_singleton] at hm
    rcases hm with ⟨x, hx, rfl⟩ | rfl
    · obtain ⟨h1, h2⟩ := uns_clean _ 0 (clean_zero s) (Nat.zero_le _) x hx
      exact ⟨x.1, rfl, h2, fun _ => clean_brd h1 h2⟩
    · exact ⟨s.size, rfl, Nat.le_refl _, fun _ => clean_brd (uns_end s.size 0 (clean_zero s) (Nat.zero_le _) (by omega)) (Nat.le_refl _)⟩
  · simp only [if_true, List.mem_map, List.mem_range] at hm
    obtain ⟨k, hk, rfl⟩ := hm
    exact ⟨k, rfl, by omega, fun h => by cases h⟩

/-! ### Small things for the walk -/
theorem fill_set {k n : Nat} (h : k < n) (a b : Value) : (List.replicate k a ++ List.replicate (n - k) b).set (0 + k * 1) a = List.replicate (k + 1) a ++ List.replicate (n - (k + 1)) b := by
  rw [show n - k = (n - (k + 1)) + 1 by omega, List.replicate_succ (n := n - (k + 1)), Nat.zero_add, Nat.mul_one, List.set_append_right _ _ (by simp)]
  simp [List.replicate_succ', List.append_assoc]
theorem rdI_blk {h : Hp} {b e n : Nat} {k : IntKind} {xs : List Int} (r : (blk b (xs.map (.int k ·)) e).At h) (hn : xs.length = n) : RdI h k (some ⟨b, 0, none⟩) n xs := by
  refine ⟨hn, fun _ => ⟨b, 0, rfl, fun i hi => ?_⟩⟩
  obtain ⟨o, h1, rfl⟩ := r b rfl
  have : i < xs.length := by omega
  simp [at1, h1, gZ, this]
theorem WS.blkRow {F : Hp} {M : List Chunk} {w0 w : World} (s : WS F M w0 w) (i : Nat) {b e sz : Nat} {cs : List Value} (hi : M[i]? = some (blk b cs e)) (k : Nat) (hl : cs.length = k * sz) : WS F (M.set i (row (some b) k e sz cs)) w0 w :=
  s.weakAt i hi (fun _ e => e) fun _ o _ h => ⟨[], (by rw [List.append_nil]; exact h), by simpa using hl⟩
section
variable {P : Program} {n : Nat} {ops : Array Oper} {ρ : Env} {F : Hp} {M : List Chunk} {w0 : World} {ty : TypeId} {Q : Exit → Act → World → Prop}
theorem cScope {c : Code} (h : TC P n c ρ F M w0 (Exit.noGoto Q)) : TC P n (.scope c) ρ F M w0 Q := fun a w f s => wp_scope_straight (h a w f s)
theorem xScope (h : TX n .normal ρ F M w0 Q) : TX n .normal ρ F M w0 (Exit.noGoto Q) := fun a w f s => h a w f s
theorem xRetScope (h : TX n .ret ρ F M w0 Q) : TX n .ret ρ F M w0 (Exit.noGoto Q) := fun a w f s => h a w f s
theorem cFact {c : Code} {φ : Prop} (hφ : ∀ w, WS F M w0 w → φ) (h : φ → TC P n c ρ F M w0 Q) : TC P n c ρ F M w0 Q := fun a w f s => h (hφ w s) a w f s
theorem xFreeze {e : Exit} (i : Nat) {k : Chunk} (hi : M[i]? = some k) (h : ∀ F', Sub F F' → k.At F' → (∀ b, k.blk = some b → F b = none) → TX n e ρ F' (M.eraseIdx i) w0 Q) : TX n e ρ F M w0 Q := fun a w f s =>
  let ⟨F', h1, h2, h3, s'⟩ := s.freeze i hi
  h F' h1 h2 h3 a w f s'
theorem qMinC {t u rt : TypeId} {x y : Operand} {k k' : IntKind} {a b c : Int} (hx : evl ρ x = some (.int k a)) (hy : evl ρ y = some (.int k' b)) (hc : min a b = c) : Qv P n (.call { callee := .builtin .min, args := #[x, y], argTypes := #[t, u] }) rt ρ F M w0 (.int k c) := hc ▸ qMin hx hy
theorem dCallO {T : Act → World → Prop} {FS : Hp} {MS : List Chunk} {i : Nat} {l : List (Nat × Bool)} {d : Nat} {ty : TypeId} {pos : String} {after : Array Edge} {f : FuncId} {cl : Operand} {args : Array Operand} {ts : Array TypeId} {vs first captured : List Value} {Φ : Value → List Chunk → Prop}
    (ho : ops[i]? = some ⟨some d, .call { callee := .value cl, args := args, argTypes := ts }, ty, pos, after, none⟩) (hd : Nat.blt d n = true) (hcall : ∀ (a : Array Value) w, (callFunc f a).run P w = .ok (.enter f a) w)
    (hcl : evl ρ cl = some (.func (.func f) first.toArray captured.toArray)) (ha : evls ρ args.toList = some vs)
    (hC : ∀ w, WS F M w0 w → Calls P f (first ++ vs ++ captured).toArray w (fun e w' => ∃ v, e = .returned v ∧ ∃ C, Own w w' C ∧ Φ v C))
    (hS : ∀ v C, Φ v C → ∀ w, WS F (C ++ M) w0 w → WS FS MS w0 w) (h : ∀ v C, Φ v C → TD P n ops T FS MS l ((d, v) :: ρ) F (C ++ M) w0 Q) : TD P n ops T FS MS ((i, false) :: l) ρ F M w0 Q :=
  dE ho hd (eCall (R := fun v w' => ∃ C, Φ v C ∧ WS F (C ++ M) w0 w') (Post := fun v F' M' => F' = F ∧ ∃ C, M' = C ++ M ∧ Φ v C) hcall hcl ha (fun w s => (hC w s).mono fun e w' ⟨v, h1, C, h2, h3⟩ => ⟨v, h1, C, h3, s.own h2⟩) (fun _ v w' _ ⟨C, h1, h2⟩ => ⟨F, C ++ M, ⟨rfl, C, rfl, h1⟩, h2⟩))
    (fun v _ _ w ⟨h1, C, h2, h3⟩ s => by subst h1; subst h2; exact hS v C h3 w s) fun v _ _ ⟨h1, C, h2, h3⟩ => by subst h1; subst h2; exact h v C h3
end
theorem map_at {xs : List Int} {k : IntKind} {i : Nat} (h : i < xs.length) : (xs.map (Value.int k ·))[0 + i * 1]? = some (.int k (gZ xs i)) := by simp [gZ, h]
/-- What `from` answers, and leaves. -/
structure FromP (p : Prg) (s : ByteArray) (D f wl : Nat) (longest : Bool) (r : List (List Int) × Vis) (F : Hp) (bb : Nat) (M : List Chunk) (v : Value) (F' : Hp) (M' : List Chunk) : Prop where
  sub : Sub F F'
  out : ∃ (Ab : Option Nat) (cb : Nat) (ws : List Nat), v = rowV Ab ((Bst longest r.1).getD []).length cb ∧ M' = row Ab cb 3 1 (((Bst longest r.1).getD []).map (.int .i64 ·)) :: blk bb (u64c ws) 207 :: M ∧
    ws.length = wl ∧ small ws ∧ (r.1 = [] → VisRel p.insts.length D f (mkOf p.insts) ws r.2) ∧ (Bst longest r.1 = none → Ab = none ∧ cb = 0) ∧ ∀ b, Bst longest r.1 = some b → b.length = 2 * p.names.length + 2 ∧ Ab ≠ none
end Go.V
namespace Go.V
section
variable {F0 F1 : Hp} {p : Prg} {s : ByteArray} {D f wl : Nat} {longest : Bool} {r : List (List Int) × Vis} {ws : List Nat} {V : Vis} {stk' stk2 : List (Thr × Value)} {x : Thr × Value} {A cap A2 cap2 : Nat} {best : Option (List Int)} {Ab : Option Nat} {cb : Nat}
theorem BOk.seen (h : BOk F0 p s D f wl longest r ⟨F1, ws, V, stk' ++ [x], A, cap, best, Ab, cb⟩) (hv : V x.1.key = true) (ht : tb ws (pkey D f (rankOf (mkOf p.insts) 65) (mkOf p.insts) x.1.key) = true) :
    BOk F0 p s D f wl longest r ⟨F1, mark ws (pkey D f (rankOf (mkOf p.insts) 65) (mkOf p.insts) x.1.key), V, stk', A2, cap2, best, Ab, cb⟩ := by
  obtain ⟨h1, h2, h3, h4, h5, h6, h7, h8⟩ := h
  rw [mark_same ht]
  refine ⟨h1, h2, h3, h4, fun y hy => h5 y (by simp [hy]), ?_, h7, ?_⟩
  · dsimp only at h6 ⊢
    rw [thrs_snoc, fin_skip hv] at h6
    exact h6
  · dsimp only at h8 ⊢; simp at h8; omega
theorem BOk.next (h : BOk F0 p s D f wl longest r ⟨F1, ws, V, stk' ++ [x], A, cap, best, Ab, cb⟩) {F2 : Hp} (hs : Sub F1 F2) (hk : KeyOk p.insts.length D f (mkOf p.insts) x.1.key) (hc : p.insts.length * D * rankOf (mkOf p.insts) 65 < 64 * wl) (hkm : x.1.key ∈ keys (machOf p s)) (hv : V x.1.key = false)
    (h2 : ∀ y ∈ stk2, TOk F2 p D f y) (hf : fin (machOf p s) V (x.1 :: thrs stk') = fin (machOf p s) (V.add x.1.key) (thrs stk2)) (hl : stk2.length ≤ stk'.length + 2) :
    BOk F0 p s D f wl longest r ⟨F2, mark ws (pkey D f (rankOf (mkOf p.insts) 65) (mkOf p.insts) x.1.key), V.add x.1.key, stk2, A2, cap2, best, Ab, cb⟩ := by
  obtain ⟨g1, g2, g3, g4, g5, g6, g7, g8⟩ := h
  dsimp only at *
  have hun := unvis_add hkm hv
  refine ⟨g1.trans hs, by rw [mark_len]; exact g2, mark_small g3, g4.mark hk (by rw [g2]; exact hc), h2, ?_, g7, ?_⟩
  · dsimp only
    rw [thrs_snoc, hf] at g6
    exact g6
  · dsimp only; simp at g8; omega
theorem BOk.hit (h : BOk F0 p s D f wl longest r ⟨F1, ws, V, stk' ++ [x], A, cap, best, Ab, cb⟩) (hk : KeyOk p.insts.length D f (mkOf p.insts) x.1.key) (hc : p.insts.length * D * rankOf (mkOf p.insts) 65 < 64 * wl) (hkm : x.1.key ∈ keys (machOf p s)) (hv : V x.1.key = false)
    {sl : List Int} (hst : (machOf p s).step x.1 = .hit sl) (hlg : longest = true) {Ab2 : Option Nat} {cb2 : Nat} (hb : ∀ b, upd best sl = some b → b.length = 2 * p.names.length + 2 ∧ Ab2 ≠ none) :
    BOk F0 p s D f wl longest r ⟨F1, mark ws (pkey D f (rankOf (mkOf p.insts) 65) (mkOf p.insts) x.1.key), V.add x.1.key, stk', A2, cap2, upd best sl, Ab2, cb2⟩ := by
  obtain ⟨g1, g2, g3, g4, g5, g6, g7, g8⟩ := h
  dsimp only at *
  have hun := unvis_add hkm hv
  refine ⟨g1, by rw [mark_len]; exact g2, mark_small g3, g4.mark hk (by rw [g2]; exact hc), fun y hy => g5 y (by simp [hy]), ?_, ⟨fun e => ?_, hb⟩, ?_⟩
  · dsimp only
    rw [thrs_snoc, fin_hit hkm hv hst] at g6
    obtain ⟨pre, e1, e2, e3⟩ := g6
    refine ⟨pre ++ [sl], by rw [e1]; simp, ?_, fun e => by rw [hlg] at e; cases e⟩
    rw [List.foldl_append, ← e2]; rfl
  · exfalso
    dsimp only at e
    unfold upd at e
    split at e
    · cases e
    · split at e <;> cases e
  · dsimp only; simp at g8; omega
end
theorem thrs_one (x : Thr × Value) : thrs [x] = [x.1] := rfl
end Go.V
namespace Go.V
theorem gZ_set {xs : List Int} {i : Nat} {z : Int} (h : i < xs.length) : gZ (xs.set i z) i = z := by simp [gZ, h]
theorem start_ok {F FA : Hp} {p : Prg} {s : ByteArray} {D f wl bd b c b48 : Nat} {longest : Bool} {r : List (List Int) × Vis} {ws : List Nat} {V0 : Vis} (hr : fin (machOf p s) V0 [startT p s bd] = r) (hs : Sub F FA) (hwl : ws.length = wl) (hsm : small ws) (hV : VisRel p.insts.length D f (mkOf p.insts) ws V0)
    (hst : KeyOk p.insts.length D f (mkOf p.insts) (startT p s bd).key) (hA : (row (some b) c 3 1 (((List.replicate (2 * p.names.length + 2) (-1 : Int)).set 0 (gZ (mP p.raw s) bd)).map (.int .i64 ·))).At FA) :
    BOk F p s D f wl longest r (BSt.mk FA ws V0 [(startT p s bd, rowV (some b) (2 * p.names.length + 2) c)] b48 1 none none 0) := by
  refine ⟨hs, hwl, hsm, hV, fun x hx => ?_, ⟨[], ?_, rfl, fun _ => rfl⟩, ⟨fun _ => ⟨rfl, rfl⟩, fun b e => by cases e⟩, ?_⟩
  · obtain rfl := List.mem_singleton.1 hx
    exact ⟨hst, by simp [startT], _, _, rfl, rdI_row (cap := c) (e := 3) hA (by simp [startT]) (fun e => by cases e)⟩
  · rw [← hr]; rfl
  · have := unvis_le (machOf p s) V0
    show 1 + unvis (machOf p s) V0 ≤ roomN p s + 1
    have e : roomN p s = (machOf p s).ins.length * (machOf p s).ps.length * 65 := rfl
    omega
theorem end_ok {F F1 : Hp} {p : Prg} {s : ByteArray} {D f wl bb : Nat} {longest : Bool} {r : List (List Int) × Vis} {ws : List Nat} {V : Vis} {A cap cb : Nat} {best : Option (List Int)} {Ab : Option Nat} {M : List Chunk} (h : BOk F p s D f wl longest r ⟨F1, ws, V, [], A, cap, best, Ab, cb⟩) :
    FromP p s D f wl longest r F bb M (rowV Ab (best.getD []).length cb) F1 (row Ab cb 3 1 ((best.getD []).map (.int .i64 ·)) :: blk bb (u64c ws) 207 :: M) := by
  obtain ⟨h1, h2, h3, h4, h5, ⟨pre, e1, e2, e3⟩, h7, h8⟩ := h
  dsimp only at *
  rw [show thrs [] = [] from rfl, fin_nil] at e1
  have hb : best = Bst longest r.1 := by
    unfold Bst
    cases longest
    · have := e3 rfl
      subst this
      rw [e2, e1]; rfl
    · rw [e2, e1]; simp
  subst hb
  refine ⟨h1, Ab, cb, ws, rfl, rfl, h2, h3, fun _ => ?_, h7.1, h7.2⟩
  rw [e1]; exact h4
theorem break_ok {F F1 : Hp} {p : Prg} {s : ByteArray} {D f wl bb : Nat} {r : List (List Int) × Vis} {ws : List Nat} {V : Vis} {A cap cb : Nat} {best : Option (List Int)} {Ab : Option Nat} {M : List Chunk} {stk' : List (Thr × Value)} {x : Thr × Value} (h : BOk F p s D f wl false r ⟨F1, ws, V, stk' ++ [x], A, cap, best, Ab, cb⟩)
    (hkm : x.1.key ∈ keys (machOf p s)) (hv : V x.1.key = false) {sl : List Int} (hst : (machOf p s).step x.1 = .hit sl) {best2 : Option (List Int)} {Ab2 : Option Nat} {cb2 k : Nat} (hb2 : best2 = upd best sl) (hb3 : ∀ b, best2 = some b → b.length = 2 * p.names.length + 2 ∧ Ab2 ≠ none) :
    FromP p s D f wl false r F bb M (rowV Ab2 (best2.getD []).length cb2) F1 (row Ab2 cb2 3 1 ((best2.getD []).map (.int .i64 ·)) :: blk bb (u64c (mark ws k)) 207 :: M) := by
  obtain ⟨h1, h2, h3, h4, h5, ⟨pre, e1, e2, e3⟩, h7, h8⟩ := h
  dsimp only at *
  have hpre := e3 rfl
  subst hpre
  have e2 : best = none := e2
  subst e2
  rw [thrs_snoc, fin_hit hkm hv hst] at e1
  have hr : Bst false r.1 = some sl := by rw [e1]; rfl
  have hb2' : best2 = some sl := hb2
  subst hb2'
  refine ⟨h1, Ab2, cb2, mark ws k, by rw [hr], by rw [hr], by rw [mark_len]; exact h2, mark_small h3, fun e => ?_, (fun e => by rw [hr] at e; cases e), (fun b e => by rw [hr] at e; exact hb3 b e)⟩
  rw [e1] at e; cases e
end Go.V
namespace Go.V
/-! ### Each border is a place -/
theorem brd_place {s : ByteArray} {p : Nat} (hb : brd s (p : Int)) (hp : p < s.size) : ∀ k q, q ≤ p → s.size - q ≤ k → ∃ u, (p, u) ∈ uns s k q
  | 0, q, hq, hk => by omega
  | k + 1, q, hq, hk => by
    have hu := unt_le s q
    simp only [uns]
    rw [if_pos (by omega)]
    rcases Nat.lt_or_ge q p with h | h
    · have hle : q + (unt s q).2 ≤ p := by
        by_cases hw : (unt s q).2 = 1
        · omega
        · have hc : (unt s q).2 = (chr s q).2 := by
            unfold unt at hw ⊢
            split
            · rename_i hz; rw [if_pos hz] at hw; exact absurd rfl hw
            · rfl
          obtain ⟨_, _, b1, b2, b3⟩ := hb
          rw [Int.toNat_natCast] at b1 b2 b3
          rcases Nat.lt_or_ge (p - q) 4 with h4 | h4
          · have : p - q = 1 ∨ p - q = 2 ∨ p - q = 3 := by omega
            rcases this with e | e | e
            · have := b1 (by omega); rw [show p - 1 = q by omega] at this; omega
            · have := b2 (by omega); rw [show p - 2 = q by omega] at this; omega
            · have := b3 (by omega); rw [show p - 3 = q by omega] at this; omega
          · omega
      obtain ⟨u, hm⟩ := brd_place hb hp k (q + (unt s q).2) hle (by omega)
      exact ⟨u, .tail _ hm⟩
    · obtain rfl : q = p := by omega
      exact ⟨_, .head _⟩
/-- The border of a mode. -/
def brdM (raw : Bool) (s : ByteArray) (p : Int) : Prop := 0 ≤ p ∧ p ≤ s.size ∧ (raw = false → brd s p)
instance (raw : Bool) (s : ByteArray) (p : Int) : Decidable (brdM raw s p) := by unfold brdM; infer_instance
theorem mem_place {raw : Bool} {s : ByteArray} {p : Int} (h : brdM raw s p) : ∃ f, f < (mP raw s).length ∧ gZ (mP raw s) f = p := by
  obtain ⟨h1, h2, h3⟩ := h
  obtain ⟨q, rfl⟩ : ∃ q : Nat, p = (q : Int) := ⟨p.toNat, by omega⟩
  have hm : (q : Int) ∈ mP raw s := by
    unfold mP
    cases raw
    · simp only [Bool.false_eq_true, if_false, pL, List.mem_append, List.mem_map, List.mem_singleton]
      rcases Nat.lt_or_ge q s.size with h | h
      · obtain ⟨u, hm⟩ := brd_place (h3 rfl) h s.size 0 (Nat.zero_le _) (by omega)
        exact .inl ⟨(q, u), hm, rfl⟩
      · right; have : q = s.size := by omega
        rw [this]
    · simp only [if_true, List.mem_map, List.mem_range]
      exact ⟨q, by omega, rfl⟩
  obtain ⟨f, hf, he⟩ := List.mem_iff_getElem.1 hm
  exact ⟨f, hf, by rw [← gZ_at hf]; exact he⟩
/-- The first number of a place. -/
def firstOf (l : List Int) (p : Int) : Nat := l.findIdx (· == p)
theorem firstOf_lt {l : List Int} {p : Int} (h : ∃ f, f < l.length ∧ gZ l f = p) : firstOf l p < l.length ∧ gZ l (firstOf l p) = p := by
  obtain ⟨f, hf, he⟩ := h
  have hm : ∃ x ∈ l, (x == p) = true := ⟨l[f], List.getElem_mem hf, by rw [gZ_at hf, he]; simp⟩
  have hl : firstOf l p < l.length := List.findIdx_lt_length.2 hm
  refine ⟨hl, ?_⟩
  have := List.findIdx_getElem (w := hl)
  rw [← gZ_at hl]
  exact beq_iff_eq.1 this
theorem firstOf_ne {l : List Int} {p : Int} {k : Nat} (h : k < firstOf l p) (hl : k < l.length) : gZ l k ≠ p := by
  have := List.not_of_lt_findIdx h
  rw [← gZ_at hl]
  intro e
  simp [e] at this
end Go.V
namespace Go.V
/-! ### The engine's cells -/
def rkAt (mk : Nat → Bool) (l : Nat) : List Value := (List.range 65).map fun i => Value.int .i64 ((if i < l ∧ mk i = true then rankOf mk i else 0 : Nat) : Int)
theorem rkAt_len (mk : Nat → Bool) (l : Nat) : (rkAt mk l).length = 65 := by simp [rkAt]
theorem rkAt_zero (mk : Nat → Bool) : rkAt mk 0 = List.replicate 65 (.int .i64 0) := by
  unfold rkAt
  have : (fun i => Value.int .i64 ((if i < 0 ∧ mk i = true then rankOf mk i else 0 : Nat) : Int)) = fun _ => Value.int .i64 0 := by
    funext i; simp
  rw [this, List.map_const']
  simp only [List.length_range]
theorem rkAt_set {mk : Nat → Bool} {l : Nat} (hl : l < 65) (h : mk l = true) : (rkAt mk l).set l (.int .i64 (rankOf mk l : Nat)) = rkAt mk (l + 1) := by
  unfold rkAt
  apply List.ext_getElem?
  intro i
  rw [List.getElem?_set]
  by_cases e : l = i
  · subst e
    simp [hl, h]
  · rw [if_neg e]
    by_cases hi : i < 65
    · have : (i < l ∧ mk i = true) ↔ (i < l + 1 ∧ mk i = true) := by
        constructor
        · rintro ⟨a, b⟩; exact ⟨by omega, b⟩
        · rintro ⟨a, b⟩; exact ⟨by omega, b⟩
      simp only [List.getElem?_map, List.getElem?_range hi, Option.map_some, this]
    · rw [List.getElem?_eq_none (by simp; omega), List.getElem?_eq_none (by simp; omega)]
theorem rkAt_skip {mk : Nat → Bool} {l : Nat} (h : mk l = false) : rkAt mk (l + 1) = rkAt mk l := by
  unfold rkAt
  apply List.map_congr_left
  intro i _
  congr 2
  have : (i < l + 1 ∧ mk i = true) ↔ (i < l ∧ mk i = true) := by
    constructor
    · rintro ⟨a, b⟩
      refine ⟨?_, b⟩
      rcases Nat.lt_or_ge i l with h' | h'
      · exact h'
      · obtain rfl : i = l := by omega
        rw [h] at b; cases b
    · rintro ⟨a, b⟩; exact ⟨by omega, b⟩
  simp only [this]
/-- The cells of the engine, but for the program's three. -/
def engL (c0 c1 c2 : Value) (s : ByteArray) (vu vp : Value) (rk : List Value) (lv f : Int) (vb : Value) : List Value := c0 :: c1 :: c2 :: .string s :: vu :: vp :: (rk ++ [.int .i64 lv, .int .i64 f, vb])
theorem engL_len {c0 c1 c2 : Value} {s : ByteArray} {vu vp : Value} {rk : List Value} {lv f : Int} {vb : Value} (h : rk.length = 65) : (engL c0 c1 c2 s vu vp rk lv f vb).length = 74 := by simp [engL, h]
theorem engL_rk {c0 c1 c2 : Value} {s : ByteArray} {vu vp : Value} {rk : List Value} {lv f : Int} {vb : Value} {l : Nat} (h : rk.length = 65) (hl : l < 65) : (engL c0 c1 c2 s vu vp rk lv f vb)[6 + l]? = rk[l]? := by
  rw [show 6 + l = l + 6 by omega]
  simp only [engL, List.getElem?_cons_succ]
  rw [List.getElem?_append_left (by omega)]
theorem engL_tail {c0 c1 c2 : Value} {s : ByteArray} {vu vp : Value} {rk : List Value} {lv f : Int} {vb : Value} (h : rk.length = 65) : (engL c0 c1 c2 s vu vp rk lv f vb)[71]? = some (.int .i64 lv) ∧ (engL c0 c1 c2 s vu vp rk lv f vb)[72]? = some (.int .i64 f) ∧ (engL c0 c1 c2 s vu vp rk lv f vb)[73]? = some vb := by
  simp only [engL, List.getElem?_cons_succ]
  refine ⟨?_, ?_, ?_⟩ <;> (rw [List.getElem?_append_right (by omega), h]; rfl)
theorem engL_setrk {c0 c1 c2 : Value} {s : ByteArray} {vu vp : Value} {rk : List Value} {lv f : Int} {vb v : Value} {l : Nat} (h : rk.length = 65) (hl : l < 65) : (engL c0 c1 c2 s vu vp rk lv f vb).set (6 + l) v = engL c0 c1 c2 s vu vp (rk.set l v) lv f vb := by
  rw [show 6 + l = l + 6 by omega]
  simp only [engL, List.set_cons_succ]
  rw [List.set_append_left _ _ (by omega)]
theorem engL_setlv {c0 c1 c2 : Value} {s : ByteArray} {vu vp : Value} {rk : List Value} {lv f z : Int} {vb : Value} (h : rk.length = 65) : (engL c0 c1 c2 s vu vp rk lv f vb).set 71 (.int .i64 z) = engL c0 c1 c2 s vu vp rk z f vb := by
  simp only [engL, List.set_cons_succ]
  rw [List.set_append_right _ _ (by omega), h]; rfl
theorem engL_setvb {c0 c1 c2 : Value} {s : ByteArray} {vu vp : Value} {rk : List Value} {lv f : Int} {vb v : Value} (h : rk.length = 65) : (engL c0 c1 c2 s vu vp rk lv f vb).set 73 v = engL c0 c1 c2 s vu vp rk lv f v := by
  simp only [engL, List.set_cons_succ]
  rw [List.set_append_right _ _ (by omega), h]; rfl
end Go.V
namespace Go.V
section
variable {P : Program} {n : Nat} {ops : Array Oper} {ρ : Env} {F : Hp} {M : List Chunk} {w0 : World} {Q : Exit → Act → World → Prop}
theorem dMake {T : Act → World → Prop} {FS : Hp} {MS : List Chunk} {i : Nat} {l : List (Nat × Bool)} {d : Nat} {ty : TypeId} {pos : String} {after : Array Edge} {t e : TypeId} {x y : Operand} {inf : TypeInfo} {z : Value} {k sz bytes : Nat} {a b : Int} (ho : ops[i]? = some ⟨some d, .makeSlice t x y, ty, pos, after, none⟩) (hd : Nat.blt d n = true) (ht : ∀ w, (underlying t).run P w = .ok (.slice e) w) (hi : ∀ w, (typeInfo e).run P w = .ok inf w) (hbytes : inf.bytes = bytes) (hz : ∀ w, (sizeOf e).run P w = .ok sz w) (hzv : ∀ w, (zeroValue e).run P w = .ok z w) (hzs : z.cells.size = sz)
    (hx : evl ρ x = some (.int .i64 a)) (hy : evl ρ y = some (.int .i64 b)) {c : Nat} (ha : a = (k : Int)) (hb : b = (c : Int)) (hkc : k ≤ c) (hroom : c * bytes ≤ 140737488355328) (hc : c ≤ 140737488355328)
    (hS : ∀ b w, WS F (blk b (zcells z.cells.toList c) e :: M) w0 w → WS FS MS w0 w) (h : ∀ b, TD P n ops T FS MS l ((d, .slice (some ⟨b, 0, none⟩) k c) :: ρ) F (blk b (zcells z.cells.toList c) e :: M) w0 Q) : TD P n ops T FS MS ((i, false) :: l) ρ F M w0 Q :=
  dE ho hd (eMake ht hi hbytes hz hzv hzs hx hy ha hb hkc hroom hc) (fun _ _ _ w ⟨b, _, h2, h3⟩ s => by subst h2; subst h3; exact hS b w s) fun _ _ _ ⟨b, h1, h2, h3⟩ => by subst h1; subst h2; subst h3; exact h b
end
theorem zcells_u64 (k : Nat) : zcells [.int .u64 0] k = u64c (List.replicate k 0) := by
  rw [zcells_one, u64c, List.map_replicate]; rfl
theorem rkAt_at {mk : Nat → Bool} {l k : Nat} (hl : l < 65) (hk : l < k) (h : mk l = true) : (rkAt mk k)[l]? = some (.int .i64 (rankOf mk l : Nat)) := by
  simp [rkAt, hl, hk, h]
/-- The engine is read from now on. -/
theorem eng_of {h : Hp} {be bb : Nat} {p : Prg} {s : ByteArray} {f wl : Nat} {A B U D : Option Addr} {cA cB cU cD : Nat} (hb : (blk be (engL (.slice A p.insts.length cA) (.slice B p.names.length cB) (.bool p.raw) s (.slice U (mU p.raw s).length cU) (.slice D ((mU p.raw s).length + 1) cD) (rkAt (mkOf p.insts) 65) (rankOf (mkOf p.insts) 65 : Nat) (f : Nat) (.slice (some ⟨bb, 0, none⟩) wl wl)) 92).At h)
    (hi : RdP h A p.insts.length p.insts) (hu : RdI h .i32 U (mU p.raw s).length (mU p.raw s)) (hd : RdI h .i64 D ((mU p.raw s).length + 1) (mP p.raw s)) : Eng h be bb p s f wl where
  insts := ⟨A, cA, blk_at1 hb rfl, hi⟩
  names := ⟨B, cB, blk_at1 hb rfl⟩
  raw := blk_at1 hb rfl
  text := blk_at1 hb rfl
  units := ⟨U, cU, blk_at1 hb rfl, hu⟩
  places := ⟨D, cD, blk_at1 hb rfl, hd⟩
  ranks := fun l hl hm => by
    rcases Nat.lt_or_ge l 65 with h65 | h65
    · exact blk_at1 hb (by rw [engL_rk (rkAt_len _ _) h65]; exact rkAt_at h65 h65 hm)
    · omega
  levels := blk_at1 hb (engL_tail (rkAt_len _ _)).1
  first := blk_at1 hb (engL_tail (rkAt_len _ _)).2.1
  been := blk_at1 hb (engL_tail (rkAt_len _ _)).2.2
end Go.V
namespace Go.V
/-! ### The hits from a border; the first border with a hit -/
def noV : Vis := fun _ => false
def hitsOf (p : Prg) (s : ByteArray) (bd : Nat) : List (List Int) := (fin (machOf p s) noV [startT p s bd]).1
def firstHit (p : Prg) (s : ByteArray) (longest : Bool) : Nat → Nat → Option (List Int)
  | 0, _ => none
  | k + 1, b => match Bst longest (hitsOf p s b) with
    | some m => some m
    | none => firstHit p s longest k (b + 1)
theorem bst_none {l : Bool} {h : List (List Int)} : Bst l h = none ↔ h = [] := by
  have key : ∀ (h : List (List Int)) (b : List Int), h.foldl upd (some b) ≠ none := by
    intro h
    induction h with
    | nil => intro b e; cases e
    | cons a h ih =>
      intro b e
      simp only [List.foldl_cons, upd] at e
      split at e <;> exact ih _ e
  unfold Bst
  cases h with
  | nil => cases l <;> simp
  | cons a h =>
    cases l
    · simp
    · simp only [if_true, List.foldl_cons, reduceCtorEq, iff_false]
      exact key h a
theorem fin_clean {m : Mach} {V : Vis} {S : List Thr} (hc : Closed m V []) : (fin m V S).1 = (fin m noV S).1 :=
  fin_barren hc _ noV V S S (Nat.le_refl _) (fun k => by simp [noV]) rfl
theorem closed_next {m : Mach} {V : Vis} {S : List Thr} (hc : Closed m V []) (h : (fin m V S).1 = []) : Closed m (fin m V S).2 [] :=
  fin_closed _ V S (Nat.le_refl _) (fun t ht => ⟨fun k hk => by
    rcases (hc t ht).1 k hk with h | ⟨u, hu, _⟩ | h
    · exact .inl h
    · cases hu
    · exact .inr (.inr h), (hc t ht).2⟩) h
theorem closed_noV (m : Mach) : Closed m noV [] := closed_empty m

/-! ### Ways: of the hits with one end the first -/
def addW (W : List (List Int)) (h : List Int) : List (List Int) := if W.any (fun w => decide (gZ w 1 = gZ h 1)) then W else W ++ [h]
def waysOf (hs : List (List Int)) : List (List Int) := hs.foldl addW []
theorem upd_ge : ∀ (l : List (List Int)) (b0 : Option (List Int)) (b : List Int), l.foldl upd b0 = some b → (∀ w ∈ l, gZ w 1 ≤ gZ b 1) ∧ ∀ c, b0 = some c → gZ c 1 ≤ gZ b 1
  | [], b0, b, h => by
    simp only [List.foldl_nil] at h
    refine ⟨fun w hw => (by cases hw), fun c hc => ?_⟩
    rw [hc] at h; cases h; exact Int.le_refl _
  | a :: l, b0, b, h => by
    simp only [List.foldl_cons] at h
    obtain ⟨h1, h2⟩ := upd_ge l _ b h
    cases b0 with
    | none =>
      have := h2 a rfl
      exact ⟨fun w hw => by
        rcases List.mem_cons.1 hw with rfl | hw
        · exact this
        · exact h1 w hw, fun c hc => (by cases hc)⟩
    | some c0 =>
      unfold upd at h2
      simp only at h2
      by_cases hlt : gZ c0 1 < gZ a 1
      · have := h2 a (by rw [if_pos hlt])
        exact ⟨fun w hw => by
          rcases List.mem_cons.1 hw with rfl | hw
          · exact this
          · exact h1 w hw, fun c hc => by cases hc; omega⟩
      · have := h2 c0 (by rw [if_neg hlt])
        exact ⟨fun w hw => by
          rcases List.mem_cons.1 hw with rfl | hw
          · omega
          · exact h1 w hw, fun c hc => by cases hc; exact this⟩
theorem upd_some : ∀ (l : List (List Int)) (b0 : Option (List Int)), l.foldl upd b0 = none → l = [] ∧ b0 = none := by
  intro l
  induction l with
  | nil => intro b0 h; exact ⟨rfl, h⟩
  | cons a l ih =>
    intro b0 h
    have := (ih _ h).2
    unfold upd at this
    split at this
    · cases this
    · split at this <;> cases this
theorem ways_upd : ∀ (hs W : List (List Int)), (hs.foldl addW W).foldl upd none = hs.foldl upd (W.foldl upd none)
  | [], W => rfl
  | h :: hs, W => by
    simp only [List.foldl_cons]
    rw [ways_upd hs (addW W h)]
    congr 1
    unfold addW
    split
    · rename_i hany
      rw [List.any_eq_true] at hany
      obtain ⟨w, hw, he⟩ := hany
      have he := of_decide_eq_true he
      cases hb : W.foldl upd none with
      | none =>
        have := (upd_some W none hb).1
        subst this; cases hw
      | some b =>
        have := (upd_ge W none b hb).1 w hw
        simp only [upd]
        rw [if_neg (by omega)]
    · rw [List.foldl_append]; rfl
theorem addW_head {w : List Int} : ∀ (hs W : List (List Int)), (hs.foldl addW (w :: W)).head? = some w
  | [], W => rfl
  | h :: hs, W => by
    simp only [List.foldl_cons]
    unfold addW
    split
    · exact addW_head hs W
    · exact addW_head hs (W ++ [h])
theorem best_ways (l : Bool) (hs : List (List Int)) : Bst l (waysOf hs) = Bst l hs := by
  unfold Bst waysOf
  cases l
  · cases hs with
    | nil => rfl
    | cons h hs =>
      simp only [Bool.false_eq_true, if_false, List.foldl_cons, List.head?_cons]
      exact addW_head hs []
  · simp only [if_true]
    exact ways_upd hs []
/-- The best of ways, beginning with the first. -/
theorem bst_cons (w : List Int) (l : List (List Int)) : Bst true (w :: l) = l.foldl upd (some w) := rfl

/-! ### How many borders from a place on -/
theorem uns_split {s : ByteArray} {p : Nat} (hp : p < s.size) : ∀ k q, s.size - q ≤ k → q ≤ p → (∃ u, (p, u) ∈ uns s k q) → ∃ pre, uns s k q = pre ++ unsAt s p ∧ ∀ x ∈ pre, x.1 ≠ p
  | 0, q, hk, hq, h => by omega
  | k + 1, q, hk, hq, ⟨u, hu⟩ => by
    have hw := unt_le s q
    rcases Nat.lt_or_ge q p with h | h
    · simp only [uns] at hu ⊢
      rw [if_pos (by omega)] at hu ⊢
      rcases List.mem_cons.1 hu with e | hu
      · simp only [Prod.mk.injEq] at e; omega
      · have hle : q + (unt s q).2 ≤ p := by
          rcases Nat.lt_or_ge p (q + (unt s q).2) with h' | h'
          · exfalso
            have key : ∀ k r, ∀ x ∈ uns s k r, r ≤ x.1 := by
              intro k
              induction k with
              | zero => intro r x hx; simp [uns] at hx
              | succ k ih =>
                intro r x hx
                simp only [uns] at hx
                split at hx
                · rcases List.mem_cons.1 hx with rfl | hx
                  · exact Nat.le_refl _
                  · have := ih _ x hx; omega
                · cases hx
            have := key _ _ _ hu
            simp only at this; omega
          · exact h'
        obtain ⟨pre, h1, h2⟩ := uns_split hp k _ (by omega) hle ⟨u, hu⟩
        refine ⟨(q, (unt s q).1) :: pre, by rw [h1]; rfl, fun x hx => ?_⟩
        rcases List.mem_cons.1 hx with rfl | hx
        · show q ≠ p; omega
        · exact h2 x hx
    · obtain rfl : q = p := by omega
      refine ⟨[], ?_, fun x hx => by cases hx⟩
      show uns s (k + 1) q = unsAt s q
      unfold unsAt
      exact uns_eq s _ _ _ (by omega) (by omega)
theorem findIdx_pre {α : Type} {f : α → Bool} : ∀ (a b : List α), (∀ x ∈ a, f x = false) → (a ++ b).findIdx f = a.length + b.findIdx f
  | [], b, _ => by simp
  | x :: a, b, h => by
    rw [List.cons_append, List.findIdx_cons, h x (.head _), findIdx_pre a b (fun y hy => h y (.tail _ hy))]
    simp; omega
theorem borders_count {s : ByteArray} {p : Nat} (hb : brd s (p : Int)) (hp : p ≤ s.size) : (mP false s).length - firstOf (mP false s) (p : Int) = (unsAt s p).length + 1 := by
  have hle := pairs_len s
  have key : ∃ pre : List (Nat × Nat), pairs s = pre ++ unsAt s p ∧ ∀ x ∈ pre, x.1 ≠ p := by
    rcases Nat.lt_or_ge p s.size with h | h
    · obtain ⟨u, hm⟩ := brd_place hb h s.size 0 (Nat.zero_le _) (by omega)
      have := uns_split h (s.size - 0) 0 (by omega) (Nat.zero_le _) ⟨u, by rw [Nat.sub_zero]; exact hm⟩
      exact this
    · refine ⟨pairs s, by rw [unsAt_ge (by omega), List.append_nil], fun x hx => ?_⟩
      have hlt : ∀ k r, ∀ x ∈ uns s k r, x.1 < s.size := by
        intro k
        induction k with
        | zero => intro r x hx; simp [uns] at hx
        | succ k ih =>
          intro r x hx
          simp only [uns] at hx
          split at hx
          · rcases List.mem_cons.1 hx with rfl | hx
            · assumption
            · exact ih _ x hx
          · cases hx
      have := hlt _ _ x hx
      omega
  obtain ⟨pre, h1, h2⟩ := key
  have hfi : firstOf (mP false s) (p : Int) = pre.length := by
    unfold firstOf mP pL
    simp only [Bool.false_eq_true, if_false]
    rw [h1, List.map_append, List.append_assoc, findIdx_pre _ _ (fun x hx => by
      obtain ⟨y, hy, rfl⟩ := List.mem_map.1 hx
      have := h2 y hy
      simp; omega)]
    rw [List.length_map]
    have : (((unsAt s p).map fun x => ((x.1 : Nat) : Int)) ++ [(s.size : Int)]).findIdx (· == (p : Int)) = 0 := by
      rcases Nat.lt_or_ge p s.size with h | h
      · rw [unsAt_lt h]; simp [List.findIdx_cons]
      · obtain rfl : p = s.size := by omega
        rw [unsAt_ge (by omega)]; simp [List.findIdx_cons]
    omega
  rw [hfi]
  unfold mP pL
  simp only [Bool.false_eq_true, if_false, h1, List.length_append, List.length_map, List.length_singleton]
  omega
theorem borders_raw {s : ByteArray} {p : Nat} (hp : p ≤ s.size) : (mP true s).length - firstOf (mP true s) (p : Int) = s.size - p + 1 := by
  have hfi : firstOf (mP true s) (p : Int) = p := by
    unfold firstOf mP
    simp only [if_true]
    have e : (List.range (s.size + 1)).map (fun i : Nat => (i : Int)) = ((List.range p).map fun i : Nat => (i : Int)) ++ ((List.range (s.size + 1 - p)).map fun i : Nat => ((p + i : Nat) : Int)) := by
      rw [show s.size + 1 = p + (s.size + 1 - p) by omega, List.range_add, List.map_append, List.map_map]
      congr 2
      rw [show p + (s.size + 1 - p) - p = s.size + 1 - p by omega]
    rw [e, findIdx_pre _ _ (fun x hx => by
      obtain ⟨y, hy, rfl⟩ := List.mem_map.1 hx
      have := List.mem_range.1 hy
      simp; omega)]
    rw [List.length_map, List.length_range, show s.size + 1 - p = (s.size - p) + 1 by omega, List.range_succ_eq_map]
    simp [List.findIdx_cons]
  rw [hfi]
  unfold mP
  simp
  omega
end Go.V
namespace Go.V
/-! ### What is answered -/
def gate (p : Prg) (s : ByteArray) (at_ : Int) : Int :=
  if ¬ checkOk p then 1 else if ¬ brdM p.raw s at_ then 3 else if 1048576 < p.insts.length * ((mP p.raw s).length - firstOf (mP p.raw s) at_) then 6 else 0
def ansOf (g : Int) (r : Option (List Int)) : List Int × Int := if g ≠ 0 then ([], g) else match r with
  | some m => (m, 0)
  | none => ([], 7)
def backFrom (p : Prg) (s : ByteArray) (at_ : Int) (longest : Bool) : List Int × Int := ansOf (gate p s at_) (Bst longest (hitsOf p s (firstOf (mP p.raw s) at_)))
def backMatch (p : Prg) (s : ByteArray) (at_ : Int) (longest : Bool) : List Int × Int := ansOf (gate p s at_) (firstHit p s longest ((mP p.raw s).length - firstOf (mP p.raw s) at_) (firstOf (mP p.raw s) at_))
theorem gate_ok {p : Prg} {s : ByteArray} {at_ : Int} (h : gate p s at_ = 0) : checkOk p ∧ brdM p.raw s at_ ∧ p.insts.length * ((mP p.raw s).length - firstOf (mP p.raw s) at_) ≤ 1048576 := by
  unfold gate at h
  split at h
  · cases h
  · split at h
    · cases h
    · split at h
      · cases h
      · rename_i h1 h2 h3
        exact ⟨Decidable.not_not.1 h1, Decidable.not_not.1 h2, by omega⟩
theorem ans_bad {g : Int} {r : Option (List Int)} (h : g ≠ 0) : ansOf g r = ([], g) := if_pos h
theorem ans_none {g : Int} {r : Option (List Int)} (h : g = 0) (hr : r = none) : ansOf g r = ([], 7) := by subst h; subst hr; rfl
theorem ans_some {g : Int} {r : Option (List Int)} {m : List Int} (h : g = 0) (hr : r = some m) : ansOf g r = (m, 0) := by subst h; subst hr; rfl
theorem first_some {p : Prg} {s : ByteArray} {l : Bool} {k b : Nat} {m : List Int} (hk : 0 < k) (h : Bst l (hitsOf p s b) = some m) : firstHit p s l k b = some m := by
  cases k with
  | zero => omega
  | succ k => simp only [firstHit, h]
theorem first_none {p : Prg} {s : ByteArray} {l : Bool} {k b : Nat} (hk : 0 < k) (h : Bst l (hitsOf p s b) = none) : firstHit p s l k b = firstHit p s l (k - 1) (b + 1) := by
  cases k with
  | zero => omega
  | succ k => simp only [firstHit, h]; rfl
theorem u64c_zero (k : Nat) : u64c (List.replicate k 0) = List.replicate k (Value.int .u64 0) := by
  rw [u64c, List.map_replicate]; rfl
theorem small_zero (k : Nat) : small (List.replicate k 0) := by
  intro i
  simp only [List.getD, List.getElem?_replicate]
  split <;> simp
theorem vis_zero (n D f k : Nat) (mk : Nat → Bool) : VisRel n D f mk (List.replicate k 0) noV := by
  intro j _
  unfold tb noV
  simp only [List.getD, List.getElem?_replicate]
  split <;> simp
end Go.V
namespace Go.V
open Go.RowKit
/-! ### The events of a run: hits, and threads that wait at the end of the text for a unit -/
def Mach.waits (m : Mach) (t : Thr) : Bool := decide ((gI m.ins t.at_).op = 1) && decide (t.bd = m.us.length) && decide (0 < (gI m.ins t.at_).set.length)
def evs (m : Mach) (V : Vis) : List Thr → List (Option (List Int))
  | [] => []
  | t :: S =>
    if h : V t.key = true ∨ t.key ∉ keys m then evs m V S
    else match m.step t with
      | .die => if m.waits t then none :: evs m (V.add t.key) S else evs m (V.add t.key) S
      | .go a => evs m (V.add t.key) (a :: S)
      | .fork a b => evs m (V.add t.key) (a :: b :: S)
      | .hit sl => some sl :: evs m (V.add t.key) S
termination_by S => 3 * unvis m V + S.length
decreasing_by
  all_goals try (have hlt : unvis m (V.add t.key) < unvis m V := unvis_add (Classical.byContradiction fun hc => h (.inr hc)) (by simpa using fun e => h (.inl e)))
  all_goals simp only [List.length_cons]; omega
section
variable {m : Mach} {V : Vis} {t : Thr} {S : List Thr}
theorem evs_nil (m : Mach) (V : Vis) : evs m V [] = [] := by rw [evs]
theorem evs_skip (h : V t.key = true) : evs m V (t :: S) = evs m V S := by rw [evs]; simp [h]
theorem evs_go {a : Thr} (hk : t.key ∈ keys m) (h : V t.key = false) (hs : m.step t = .go a) : evs m V (t :: S) = evs m (V.add t.key) (a :: S) := by rw [evs]; simp [h, hk, hs]
theorem evs_fork {a b : Thr} (hk : t.key ∈ keys m) (h : V t.key = false) (hs : m.step t = .fork a b) : evs m V (t :: S) = evs m (V.add t.key) (a :: b :: S) := by rw [evs]; simp [h, hk, hs]
theorem evs_hit {sl : List Int} (hk : t.key ∈ keys m) (h : V t.key = false) (hs : m.step t = .hit sl) : evs m V (t :: S) = some sl :: evs m (V.add t.key) S := by rw [evs]; simp [h, hk, hs]
theorem evs_wait (hk : t.key ∈ keys m) (h : V t.key = false) (hs : m.step t = .die) (hw : m.waits t = true) : evs m V (t :: S) = none :: evs m (V.add t.key) S := by rw [evs]; simp [h, hk, hs, hw]
theorem evs_die (hk : t.key ∈ keys m) (h : V t.key = false) (hs : m.step t = .die) (hw : m.waits t = false) : evs m V (t :: S) = evs m (V.add t.key) S := by rw [evs]; simp [h, hk, hs, hw]
end
theorem evs_hits {m : Mach} : ∀ (n : Nat) (V : Vis) (S : List Thr), 3 * unvis m V + S.length ≤ n → (evs m V S).filterMap id = (fin m V S).1 := by
  intro n
  induction n with
  | zero =>
    intro V S hn
    have : S = [] := List.eq_nil_of_length_eq_zero (by omega)
    subst this; rw [evs_nil, fin_nil]; rfl
  | succ n ih =>
    intro V S hn
    cases S with
    | nil => rw [evs_nil, fin_nil]; rfl
    | cons t S =>
      simp only [List.length_cons] at hn
      by_cases hs : V t.key = true ∨ t.key ∉ keys m
      · have e : fin m V (t :: S) = fin m V S := by rw [fin]; simp [hs]
        have e' : evs m V (t :: S) = evs m V S := by rw [evs]; simp [hs]
        rw [e, e']; exact ih V S (by omega)
      · have hk : t.key ∈ keys m := Classical.byContradiction fun h => hs (.inr h)
        have hv : V t.key = false := by simpa using fun h => hs (.inl h)
        have hlt := unvis_add hk hv
        cases he : m.step t with
        | die =>
          rw [fin_die hk hv he]
          cases hw : m.waits t with
          | true => rw [evs_wait hk hv he hw]; exact ih _ _ (by omega)
          | false => rw [evs_die hk hv he hw]; exact ih _ _ (by omega)
        | go a => rw [fin_go hk hv he, evs_go hk hv he]; exact ih _ _ (by simp only [List.length_cons]; omega)
        | fork a b => rw [fin_fork hk hv he, evs_fork hk hv he]; exact ih _ _ (by simp only [List.length_cons]; omega)
        | hit sl =>
          rw [fin_hit hk hv he, evs_hit hk hv he]
          simp only [List.filterMap_cons, id]
          exact congrArg (sl :: ·) (ih _ _ (by omega))
/-- What the reference keeps: the ways, and at each wait how many there were. -/
abbrev WQ := List (List Int) × List Nat
def stR (x : WQ) : Option (List Int) → WQ
  | some h => (addW x.1 h, x.2)
  | none => (x.1, x.2 ++ [x.1.length])
def refR (es : List (Option (List Int))) : WQ := es.foldl stR ([], [])
theorem refR_ways : ∀ (es : List (Option (List Int))) (x : WQ), (es.foldl stR x).1 = (es.filterMap id).foldl addW x.1
  | [], x => rfl
  | none :: es, x => by simp only [List.foldl_cons, List.filterMap_cons, id]; rw [refR_ways es]; rfl
  | some h :: es, x => by simp only [List.foldl_cons, List.filterMap_cons, id]; rw [refR_ways es]; rfl
theorem refR_fst (m : Mach) (V : Vis) (S : List Thr) : (refR (evs m V S)).1 = waysOf (fin m V S).1 := by
  unfold refR waysOf
  rw [refR_ways, evs_hits _ V S (Nat.le_refl _)]

/-! ### The reference's table of visits -/
abbrev Tbl := List (Option Nat × List Bool)
def tblV (x : Option Nat × List Bool) : Value := .slice (x.1.map fun b => ⟨b, 0, none⟩) x.2.length x.2.length
def tblC (x : Option Nat × List Bool) : Chunk := ⟨x.1, fun o => o = .cells (x.2.map Value.bool).toArray 4 (0, 0)⟩
theorem tblC_some (b : Nat) (bs : List Bool) : tblC (some b, bs) = blk b (bs.map Value.bool) 4 := rfl
def kof (mk : Nat → Bool) (k : Key) : Nat := k.1 * rankOf mk 65 + rankOf mk k.2.2
structure TblOk (n : Nat) (mk : Nat → Bool) (np : Nat) (T : Tbl) (V : Vis) : Prop where
  len : T.length = np
  row : ∀ j, j < np → (T.getD j (none, []) = (none, []) ∨ ∃ b bs, T.getD j (none, []) = (some b, bs) ∧ bs.length = n * rankOf mk 65)
  vis : ∀ k, KeyOk n np 0 mk k → V k = (T.getD k.2.1 (none, [])).2.getD (kof mk k) false
theorem kof_lt {n np : Nat} {mk : Nat → Bool} {k : Key} (h : KeyOk n np 0 mk k) : kof mk k < n * rankOf mk 65 := by
  obtain ⟨a, b, c⟩ := k
  obtain ⟨h1, h2, h3, h4, h5⟩ := h
  simp only at *
  have r1 := rank_lt mk (show c < 65 by omega) h5
  have := Nat.mul_le_mul_right (rankOf mk 65) (show a + 1 ≤ n from h1)
  rw [Nat.add_mul] at this
  unfold kof; simp only; omega
theorem kof_inj {n np : Nat} {mk : Nat → Bool} {k j : Key} (hk : KeyOk n np 0 mk k) (hj : KeyOk n np 0 mk j) (h1 : k.2.1 = j.2.1) (h : kof mk k = kof mk j) : k = j := by
  obtain ⟨a, b, c⟩ := k
  obtain ⟨a', b', c'⟩ := j
  simp only [kof] at h h1
  have r1 := rank_lt mk (show c < 65 by have := hk.lv; simp only at this; omega) hk.mkd
  have r2 := rank_lt mk (show c' < 65 by have := hj.lv; simp only at this; omega) hj.mkd
  obtain ⟨e1, e2⟩ := mul_inj r1 r2 h
  have e3 := rank_inj mk hk.mkd hj.mkd e2
  subst e1; subst e3; subst h1; rfl
theorem getD_set_eq {α : Type} {l : List α} {i j : Nat} {v d : α} (h : i < l.length) : (l.set i v).getD j d = if i = j then v else l.getD j d := by
  simp only [List.getD, List.getElem?_set]
  by_cases e : i = j
  · subst e; simp [h]
  · simp [e]
theorem TblOk.empty (n : Nat) (mk : Nat → Bool) (np : Nat) : TblOk n mk np (List.replicate np (none, [])) noV where
  len := by simp
  row j hj := .inl (by simp [List.getD, hj])
  vis k hk := by
    have := hk.hi
    simp only [List.getD, List.getElem?_replicate]
    split <;> simp [noV]
/-- A row is laid out where there was none. -/
theorem TblOk.lay {n : Nat} {mk : Nat → Bool} {np : Nat} {T : Tbl} {V : Vis} {j b : Nat} (h : TblOk n mk np T V) (hj : j < np) (hn : T.getD j (none, []) = (none, [])) : TblOk n mk np (T.set j (some b, List.replicate (n * rankOf mk 65) false)) V where
  len := by simp [h.len]
  row i hi := by
    rw [getD_set_eq (by rw [h.len]; exact hj)]
    split
    · exact .inr ⟨b, _, rfl, by simp⟩
    · exact h.row i hi
  vis k hk := by
    rw [h.vis k hk, getD_set_eq (by rw [h.len]; exact hj)]
    split
    · rename_i e
      rw [← e, hn]
      have := kof_lt hk
      simp [List.getD, this]
    · rfl
theorem TblOk.mark {n : Nat} {mk : Nat → Bool} {np : Nat} {T : Tbl} {V : Vis} {k : Key} {b : Nat} {bs : List Bool} (h : TblOk n mk np T V) (hk : KeyOk n np 0 mk k) (hb : T.getD k.2.1 (none, []) = (some b, bs)) (hl : bs.length = n * rankOf mk 65) :
    TblOk n mk np (T.set k.2.1 (some b, bs.set (kof mk k) true)) (V.add k) := by
  have hlt := kof_lt hk
  have hhi := hk.hi
  have hT : k.2.1 < T.length := by rw [h.len]; omega
  refine ⟨by simp [h.len], fun i hi => ?_, fun j hj => ?_⟩
  · rw [getD_set_eq hT]
    split
    · exact .inr ⟨b, _, rfl, by simpa using hl⟩
    · exact h.row i hi
  · rw [getD_set_eq hT]
    unfold Vis.add
    by_cases e : j = k
    · subst e
      rw [if_pos rfl, if_pos rfl]
      simp only
      rw [getD_set_eq (by omega), if_pos rfl]
    · rw [if_neg e, h.vis j hj]
      by_cases e2 : k.2.1 = j.2.1
      · rw [if_pos e2, ← e2, hb]
        simp only
        rw [getD_set_eq (by omega), if_neg (fun e3 => e (kof_inj hj hk e2.symm e3.symm))]
      · rw [if_neg e2]
end Go.V
namespace Go.V
open Go.RowKit
section
variable {P : Program} {n : Nat} {ops : Array Oper} {ρ : Env} {F : Hp} {M : List Chunk} {w0 : World} {ty : TypeId} {Q : Exit → Act → World → Prop}
/-! ### `copy` over a whole block -/
theorem eCopy {t t2 e : TypeId} {x y : Operand} (i : Nat) {b m c sz : Nat} {cs ys : List Value} {vy : Value} (ht : ∀ w, (underlying t).run P w = .ok (.slice e) w) (hz : ∀ w, (sizeOf e).run P w = .ok sz w) (hx : evl ρ x = some (.slice (some ⟨b, 0, none⟩) m c)) (hy : evl ρ y = some vy)
    (hm : M[i]? = some (blk b cs e)) (hl : cs.length = m * sz) (hys : ys.length = m * sz) (h1 : ∀ v ∈ ys, v.oneCell' = true) (hr : ∀ w, WS F M w0 w → Reads P vy m sz ys w) :
    Ef P n (.call { callee := .builtin .copy, args := #[x, y], argTypes := #[t, t2] }) ty ρ F M w0 (fun u F' M' => u = .int .i64 (m : Nat) ∧ F' = F ∧ M' = M.set i (blk b ys e)) := fun a w f s dst pos after guard K Q h => by
  obtain ⟨_, hb, rfl⟩ := s.get i hm b rfl
  obtain ⟨hlen, hcells⟩ := hr w s
  obtain ⟨w', r1, r2, r3, r4, r5, r6, r7⟩ := run_storeCells P b 0 e ys 0 w cs hb (by omega) h1
  have hn : Nat.min m m = m := Nat.min_self m
  show Oper.upon P _ a K Q ((execOp a.eval ⟨dst, .call { callee := .builtin .copy, args := #[x, y], argTypes := #[t, t2] }, ty, pos, after, guard⟩).run P w)
  have : (execOp a.eval ⟨dst, .call { callee := .builtin .copy, args := #[x, y], argTypes := #[t, t2] }, ty, pos, after, guard⟩).run P w = .ok (.value (.int .i64 (m : Nat))) w' := by
    have e0 : execOp a.eval ⟨dst, .call { callee := .builtin .copy, args := #[x, y], argTypes := #[t, t2] }, ty, pos, after, guard⟩ = (do pure (.value (← Builtin.copy_ #[t, t2] ty #[.slice (some ⟨b, 0, none⟩) m c, vy]))) := by
      simp [execOp, resolve, invoke, builtin, f.eval hx, f.eval hy]
    rw [e0]
    have r1' : (storeCells ⟨b, 0, none⟩ ys).run P w = .ok () w' := r1
    have : (Builtin.copy_ #[t, t2] ty #[.slice (some ⟨b, 0, none⟩) m c, vy]).run P w = .ok (.int .i64 (m : Nat)) w' := by
      simp [Builtin.copy_, ht, hz, hlen, hn, hcells w rfl, r1', goInt]
    rw [Sem.run_bind, this]; rfl
  rw [this]
  refine h _ _ _ _ ⟨rfl, rfl, rfl⟩ (s.chg i hm r4 r5 r6 (by rw [r7]; exact Nat.le_refl _) (fun k' o' hk' he => by rw [r3 k' (fun e => hk' (by rw [e]; rfl))]; exact he) ?_ (fun b' hb' => .inl hb'))
  intro b' hb'
  cases hb'
  refine ⟨_, r2, ?_⟩
  congr 2
  simp only [Nat.zero_add, List.take_zero, List.nil_append]
  rw [List.drop_of_length_le (by omega), List.append_nil]
theorem tCopy {d : Nat} {pos : String} {after : Array Edge} {rest : List Oper} {t t2 e : TypeId} {x y : Operand} (i : Nat) {b m c sz : Nat} {cs ys : List Value} {vy : Value} (hd : Nat.blt d n = true) (ht : ∀ w, (underlying t).run P w = .ok (.slice e) w) (hz : ∀ w, (sizeOf e).run P w = .ok sz w) (hx : evl ρ x = some (.slice (some ⟨b, 0, none⟩) m c)) (hy : evl ρ y = some vy)
    (hm : M[i]? = some (blk b cs e)) (hl : cs.length = m * sz) (hys : ys.length = m * sz) (h1 : ∀ v ∈ ys, v.oneCell' = true) (hr : ∀ w, WS F M w0 w → Reads P vy m sz ys w)
    (h : TL P n ops rest ((d, .int .i64 (m : Nat)) :: ρ) F (M.set i (blk b ys e)) w0 Q) : TL P n ops (⟨some d, .call { callee := .builtin .copy, args := #[x, y], argTypes := #[t, t2] }, ty, pos, after, none⟩ :: rest) ρ F M w0 Q :=
  tE hd (eCopy i ht hz hx hy hm hl hys h1 hr) fun _ _ _ ⟨h1, h2, h3⟩ => by subst h1; subst h2; subst h3; exact h
/-! ### What is read in every world of the class -/
theorem qLd1W {t : TypeId} {x : Operand} {b o : Nat} {v : Value} (hg : ∀ w, (isAgg t).run P w = .ok false w) (hx : evl ρ x = some (.pointer (some ⟨b, o, none⟩))) (hv : ∀ w, WS F M w0 w → at1 (hp w) b o = some v) : Qv P n (.load t x) ty ρ F M w0 v := fun c w f s dst pos after guard => by
  simp [execOp, f.eval hx, Instr.loadAt, Instr.sureAddr, loadVar, hg, at1_cell (hv w s)]
end
/-- Chunks and what stays, of a class that is wider. -/
theorem WS.tail {F F1 : Hp} {M X : List Chunk} {w0 w : World} (h : WS F1 (X ++ M) w0 w) (hs : Sub F F1) : WS F M w0 w :=
  let h' := h.less (List.sublist_append_right X M)
  ⟨hs.trans h'.sub, h'.at_, fun c hc b hb => (by
      have := h'.off c hc b hb
      cases hF : F b with
      | none => rfl
      | some o => rw [hs _ _ hF] at this; cases this), h'.apart, h'.os, h'.tape, h'.output, h'.size⟩

/-! ### The table's chunks -/
theorem tbl_idx {T : Tbl} {M : List Chunk} {j : Nat} (hj : j < T.length) : (T.map tblC ++ M)[j]? = some (tblC (T.getD j (none, []))) := by
  rw [List.getElem?_append_left (by simpa using hj), List.getElem?_map, List.getElem?_eq_getElem hj]
  simp [List.getD, hj]
theorem tbl_val {T : Tbl} {j : Nat} (hj : j < T.length) : (T.map tblV)[0 + j * 1]? = some (tblV (T.getD j (none, []))) := by
  simp [List.getD, hj]
/-- The chunk at the head takes the place of one at no address. -/
theorem WS.into {F : Hp} {X : Chunk} {A L M : List Chunk} {w0 w : World} {i : Nat} (h : WS F (X :: (A ++ (L ++ M))) w0 w) (hi : i < L.length) : WS F (A ++ (L.set i X ++ M)) w0 w := by
  have e1 : L = L.take i ++ L[i] :: L.drop (i + 1) := by rw [← List.drop_eq_getElem_cons hi, List.take_append_drop]
  have e2 : L.set i X = L.take i ++ X :: L.drop (i + 1) := List.set_eq_take_append_cons_drop.trans (by rw [if_pos hi])
  have hsub : (X :: (A ++ ((L.take i ++ L.drop (i + 1)) ++ M))).Sublist (X :: (A ++ (L ++ M))) := by
    refine List.Sublist.cons_cons _ (List.Sublist.append (List.Sublist.refl _) (List.Sublist.append ?_ (List.Sublist.refl _)))
    conv => rhs; rw [e1]
    exact List.Sublist.append (List.Sublist.refl _) (List.sublist_cons_self _ _)
  refine (h.less hsub).perm ?_
  rw [e2]
  have : (A ++ ((L.take i ++ X :: L.drop (i + 1)) ++ M)) = (A ++ L.take i) ++ X :: (L.drop (i + 1) ++ M) := by simp
  rw [this]
  have : (X :: (A ++ ((L.take i ++ L.drop (i + 1)) ++ M))) = X :: ((A ++ L.take i) ++ (L.drop (i + 1) ++ M)) := by simp
  rw [this]
  exact List.perm_middle.symm
theorem tbl_setC {T : Tbl} {M : List Chunk} {j : Nat} (x : Option Nat × List Bool) (hj : j < T.length) : (T.map tblC ++ M).set j (tblC x) = (T.set j x).map tblC ++ M := by
  rw [List.set_append_left _ _ (by simpa using hj), List.map_set]
theorem tbl_setV {T : Tbl} {j : Nat} (x : Option Nat × List Bool) : (T.map tblV).set (0 + j * 1) (tblV x) = (T.set j x).map tblV := by
  rw [Nat.zero_add, Nat.mul_one, List.map_set]
theorem tbl_sameV {T : Tbl} {j b : Nat} {bs : List Bool} (hb : T.getD j (none, []) = (some b, bs)) (k : Nat) (hj : j < T.length) : (T.set j (some b, bs.set k true)).map tblV = T.map tblV := by
  apply List.ext_getElem?
  intro i
  rw [List.getElem?_map, List.getElem?_map, List.getElem?_set]
  by_cases e : j = i
  · subst e
    rw [if_pos rfl, if_pos hj]
    have : T[j]? = some (some b, bs) := by
      rw [List.getElem?_eq_getElem hj]
      simp only [List.getD, List.getElem?_eq_getElem hj, Option.getD_some] at hb
      rw [hb]
    rw [this]
    simp [tblV]
  · rw [if_neg e]
theorem bools_at {bs : List Bool} {k : Nat} (h : k < bs.length) : (bs.map Value.bool)[0 + k * 1]? = some (.bool (bs.getD k false)) := by simp [List.getD, h]
theorem bools_set (bs : List Bool) (k : Nat) : (bs.map Value.bool).set (0 + k * 1) (.bool true) = (bs.set k true).map Value.bool := by rw [Nat.zero_add, Nat.mul_one, List.map_set]
theorem zcells_bool (k : Nat) : zcells [.bool false] k = (List.replicate k false).map Value.bool := by rw [zcells_one, List.map_replicate]
theorem zcells_nil (k : Nat) : zcells [.slice none 0 0] k = (List.replicate k ((none, []) : Option Nat × List Bool)).map tblV := by rw [zcells_one, List.map_replicate]; rfl

/-! ### The levels' numbers, as they are laid -/
/-- The marks of the first instructions. -/
def mk1 (ins : List Ins) (k : Nat) (l : Nat) : Bool := (ins.take k).any fun x => decide (x.op = 5) && decide (x.n = (l : Int))
theorem mk1_skip {ins : List Ins} {i : Nat} (hi : i < ins.length) (h5 : (gI ins i).op ≠ 5) : mk1 ins (i + 1) = mk1 ins i := by
  funext l
  unfold mk1
  rw [List.take_add_one, List.getElem?_eq_getElem hi, gI_at hi]
  simp [h5]
theorem mk1_mark {ins : List Ins} {i c : Nat} (hi : i < ins.length) (h5 : (gI ins i).op = 5) (hn : (gI ins i).n = (c : Int)) (l : Nat) : mk1 ins (i + 1) l = (mk1 ins i l || decide (l = c)) := by
  unfold mk1
  rw [List.take_add_one, List.getElem?_eq_getElem hi, gI_at hi]
  simp [h5, hn]
  rw [Bool.eq_iff_iff]
  simp
  constructor <;> rintro (h | h) <;> first | exact .inl h | exact .inr (by omega)
theorem mk1_all {ins : List Ins} {n l : Nat} (hn : ins.length = n) : mkOf ins l = (decide (l = 64) || mk1 ins n l) := by
  subst hn; simp [mkOf, mk1]
/-- 65 cells of 1 or 0. -/
def oneC (f : Nat → Bool) : List Value := (List.range 65).map fun l => Value.int .i64 ((if f l then 1 else 0 : Nat) : Int)
theorem oneC_len (f : Nat → Bool) : (oneC f).length = 65 := by simp [oneC]
theorem oneC_set {f g : Nat → Bool} {c : Nat} (hc : c < 65) (h : ∀ l, g l = (f l || decide (l = c))) : (oneC f).set c (.int .i64 1) = oneC g := by
  unfold oneC
  apply List.ext_getElem?
  intro i
  rw [List.getElem?_set]
  by_cases e : c = i
  · subst e; simp [hc, h]
  · have e2 : ¬ i = c := fun h => e h.symm
    rw [if_neg e]
    by_cases hi : i < 65
    · simp [hi, h, e2]
    · rw [List.getElem?_eq_none (by simp; omega), List.getElem?_eq_none (by simp; omega)]
theorem oneC_zero (f : Nat → Bool) (h : ∀ l, f l = false) : oneC f = List.replicate 65 (.int .i64 0) := by
  unfold oneC
  have : (fun l => Value.int .i64 ((if f l then 1 else 0 : Nat) : Int)) = fun _ => Value.int .i64 0 := by
    funext l; simp [h l]
  rw [this, List.map_const']
  simp only [List.length_range]
/-- The first l have their number, the others 1 or 0. -/
def rnkC (mk : Nat → Bool) (l : Nat) : List Value := (List.range 65).map fun i => Value.int .i64 ((if i < l then (if mk i then rankOf mk i else 0) else (if mk i then 1 else 0) : Nat) : Int)
theorem rnkC_len (mk : Nat → Bool) (l : Nat) : (rnkC mk l).length = 65 := by simp [rnkC]
theorem rnkC_zero (mk : Nat → Bool) : rnkC mk 0 = oneC mk := by simp [rnkC, oneC]
theorem rnkC_at {mk : Nat → Bool} {l : Nat} (hl : l < 65) : (rnkC mk l)[l]? = some (.int .i64 ((if mk l then 1 else 0 : Nat) : Int)) := by simp [rnkC, hl]
theorem rnkC_set {mk : Nat → Bool} {l : Nat} (hl : l < 65) (h : mk l = true) : (rnkC mk l).set l (.int .i64 (rankOf mk l : Nat)) = rnkC mk (l + 1) := by
  unfold rnkC
  apply List.ext_getElem?
  intro i
  rw [List.getElem?_set]
  by_cases e : l = i
  · subst e; simp [hl, h]
  · rw [if_neg e]
    by_cases hi : i < 65
    · have : (i < l) ↔ (i < l + 1) := by omega
      simp only [List.getElem?_map, List.getElem?_range hi, Option.map_some, this]
    · rw [List.getElem?_eq_none (by simp; omega), List.getElem?_eq_none (by simp; omega)]
theorem rnkC_skip {mk : Nat → Bool} {l : Nat} (h : mk l = false) : rnkC mk (l + 1) = rnkC mk l := by
  unfold rnkC
  apply List.map_congr_left
  intro i _
  congr 2
  rcases Nat.lt_trichotomy i l with h' | h' | h'
  · simp [h', Nat.lt_succ_of_lt h']
  · subst h'; simp [h]
  · have h1 : ¬ i < l + 1 := by omega
    have h2 : ¬ i < l := by omega
    simp [h1, h2]
theorem rnkC_done {mk : Nat → Bool} {l : Nat} (hl : l < 65) (h : mk l = true) : (rnkC mk 65)[l]? = some (.int .i64 (rankOf mk l : Nat)) := by simp [rnkC, hl, h]

/-! ### Ways, as slices -/
structure WvOk (h : Hp) (L : Nat) (ways : List (List Int)) (wv : List Value) : Prop where
  len : wv.length = ways.length
  at_ : ∀ i, i < ways.length → (ways.getD i []).length = L ∧ ∃ A c, wv[i]? = some (.slice A L c) ∧ RdI h .i64 A L (ways.getD i [])
theorem WvOk.mono {h h' : Hp} {L : Nat} {ways : List (List Int)} {wv : List Value} (r : WvOk h L ways wv) (s : Sub h h') : WvOk h' L ways wv :=
  ⟨r.len, fun i hi => let ⟨h1, A, c, h2, h3⟩ := r.at_ i hi; ⟨h1, A, c, h2, h3.mono s⟩⟩
theorem WvOk.nil (h : Hp) (L : Nat) : WvOk h L [] [] := ⟨rfl, fun i hi => by cases hi⟩
theorem WvOk.snoc {h : Hp} {L : Nat} {ways : List (List Int)} {wv : List Value} {x : List Int} {A : Option Addr} {c : Nat} (r : WvOk h L ways wv) (hx : x.length = L) (hr : RdI h .i64 A L x) : WvOk h L (ways ++ [x]) (wv ++ [.slice A L c]) := by
  have hl := r.len
  refine ⟨by simp [hl], fun i hi => ?_⟩
  rcases Nat.lt_or_ge i ways.length with h' | h'
  · obtain ⟨h1, A', c', h2, h3⟩ := r.at_ i h'
    have e : (ways ++ [x]).getD i [] = ways.getD i [] := by simp [List.getD, List.getElem?_append_left h']
    rw [e]
    exact ⟨h1, A', c', by rw [List.getElem?_append_left (by omega)]; exact h2, h3⟩
  · have hi' : i = ways.length := by simp at hi; omega
    have e : (ways ++ [x]).getD i [] = x := by rw [hi']; simp [List.getD]
    rw [e]
    exact ⟨hx, A, c, by rw [hi', ← hl]; simp, hr⟩
theorem addW_found {W : List (List Int)} {h : List Int} {i : Nat} (hi : i < W.length) (he : gZ (W.getD i []) 1 = gZ h 1) : addW W h = W := by
  unfold addW
  rw [if_pos]
  rw [List.any_eq_true]
  refine ⟨W.getD i [], ?_, decide_eq_true he⟩
  simp only [List.getD, List.getElem?_eq_getElem hi, Option.getD_some]
  exact List.getElem_mem hi
theorem addW_new {W : List (List Int)} {h : List Int} (hn : ∀ i, i < W.length → gZ (W.getD i []) 1 ≠ gZ h 1) : addW W h = W ++ [h] := by
  unfold addW
  rw [if_neg]
  rw [List.any_eq_true]
  rintro ⟨w, hw, he⟩
  obtain ⟨i, hi, rfl⟩ := List.mem_iff_getElem.1 hw
  exact hn i hi (by simp only [List.getD, List.getElem?_eq_getElem hi, Option.getD_some]; exact of_decide_eq_true he)
end Go.V

namespace Go.V
open Go.RowKit
section
variable {P : Program} {n : Nat} {ops : Array Oper} {ρ : Env} {F : Hp} {M : List Chunk} {w0 : World} {ty : TypeId} {Q : Exit → Act → World → Prop}
theorem dBuildSlice {T : Act → World → Prop} {FS : Hp} {MS : List Chunk} {i : Nat} {l : List (Nat × Bool)} {d : Nat} {pos : String} {after : Array Edge} {t e : TypeId} {len sz : Nat} {parts : Array (Nat × Operand)} {vs : List (Nat × Value)} {cs : List Value} {z : Value} (ho : ops[i]? = some ⟨some d, .buildSlice t len parts, ty, pos, after, none⟩) (hd : Nat.blt d n = true) (ht : ∀ w, (underlying t).run P w = .ok (.slice e) w) (hz : ∀ w, (sizeOf e).run P w = .ok sz w) (hzv : ∀ w, (zeroValue e).run P w = .ok z w) (hn : Nat.ble (len * sz) 4096 = true)
    (hp : evlP ρ parts.toList = some vs)
    (hzs : z.cells.size = sz) (hf' : fillL (fun i => some (i * sz, sz)) (zcells z.cells.toList len) vs = some cs)
    (hS : ∀ b w, WS F (blk b cs e :: M) w0 w → WS FS MS w0 w) (h : ∀ b, TD P n ops T FS MS l ((d, .slice (some ⟨b, 0, none⟩) len len) :: ρ) F (blk b cs e :: M) w0 Q) : TD P n ops T FS MS ((i, false) :: l) ρ F M w0 Q :=
  dE ho hd (eBuildSlice ht hz hzv hn hp hzs hf') (fun _ _ _ w ⟨b, _, h2, h3⟩ s => by subst h2; subst h3; exact hS b w s) fun _ _ _ ⟨b, h1, h2, h3⟩ => by subst h1; subst h2; subst h3; exact h b
theorem dAppend {T : Act → World → Prop} {FS : Hp} {MS : List Chunk} {j : Nat} {l : List (Nat × Bool)} {d : Nat} {pos : String} {after : Array Edge} {st xt e : TypeId} {s x : Operand} {xd : TypeDesc} {inf : TypeInfo} {z vx : Value} {A : Option Nat} {k cap sz m bytes : Nat} {xs ys : List Value} (i : Nat) (ho : ops[j]? = some ⟨some d, .call { callee := .builtin .append, args := #[s, x], argTypes := #[st, xt] }, ty, pos, after, none⟩) (hd : Nat.blt d n = true)
    (ht : ∀ w, (underlying st).run P w = .ok (.slice e) w) (hz : ∀ w, (sizeOf e).run P w = .ok sz w) (hi : ∀ w, (typeInfo e).run P w = .ok inf w) (hbytes : inf.bytes = bytes) (hzv : ∀ w, (zeroValue e).run P w = .ok z w)
    (hzs : z.cells.size = sz) (hxt : ∀ w, (underlying xt).run P w = .ok xd w) (hxd : (match xd with | .int _ => false | _ => true) = true) (hb0 : Nat.blt 0 bytes = true)
    (hs : evl ρ s = some (rowV A k cap)) (hx : evl ρ x = some vx) (hm : M[i]? = some (row A cap e sz xs)) (hA : A = none → cap = 0 ∧ k = 0) (hxs : xs.length = k * sz) (hys : ys.length = m * sz) (h1 : ∀ v ∈ ys, v.oneCell' = true)
    (hr : ∀ w, WS F M w0 w → Reads P vx m sz ys w) (hroom : (2 * (k + m) + 200) * bytes ≤ 281474976710656)
    (hS : ∀ A' cap' w, WS F (M.set i (row A' cap' e sz (xs ++ ys))) w0 w → WS FS MS w0 w)
    (h : ∀ A' cap', (A' = none → cap' = 0 ∧ k + m = 0) → TD P n ops T FS MS l ((d, rowV A' (k + m) cap') :: ρ) F (M.set i (row A' cap' e sz (xs ++ ys))) w0 Q) : TD P n ops T FS MS ((j, false) :: l) ρ F M w0 Q :=
  dE ho hd (eAppend i ht hz hi hbytes hzv hzs hxt hxd hb0 hs hx hm hA hxs hys h1 hr hroom) (fun _ _ _ w ⟨A', cap', _, _, h3, h4⟩ s => by subst h3; subst h4; exact hS A' cap' w s) fun _ _ _ ⟨A', cap', h1, h2, h3, h4⟩ => by subst h1; subst h3; subst h4; exact h A' cap' h2
end
end Go.V

namespace Go.V
theorem qIs {P : Program} {n : Nat} {ρ : Env} {F : Hp} {M : List Chunk} {w0 : World} {ty : TypeId} {op : Op} {b c : Bool} (h : Qv P n op ty ρ F M w0 (.bool b)) (e : b = c) : Qv P n op ty ρ F M w0 (.bool c) := e ▸ h
end Go.V
namespace Go.V
open Go.RowKit
/-! ### The reference's run, as it lies in memory -/
def RdW (F : Hp) (M : List Chunk) (w0 : World) (k : IntKind) (A : Option Addr) (xs : List Int) : Prop := 0 < xs.length → ∃ b o, A = some ⟨b, o, none⟩ ∧ ∀ w, WS F M w0 w → ∀ i, i < xs.length → at1 (hp w) b (o + i * 1) = some (.int k (gZ xs i))
theorem RdI.toW {F : Hp} {M : List Chunk} {w0 : World} {k : IntKind} {A : Option Addr} {n : Nat} {xs : List Int} (r : RdI F k A n xs) : RdW F M w0 k A xs := fun h =>
  let ⟨b, o, e, hc⟩ := r.at_ (by rw [← r.len]; exact h)
  ⟨b, o, e, fun w s i hi => at1_mono s.sub (hc i (by rw [← r.len]; exact hi))⟩
def roomM (m : Mach) : Nat := m.ins.length * m.ps.length * 65
def startM (m : Mach) (g bd : Nat) : Thr := ⟨0, bd, 64, (List.replicate (2 * g + 2) (-1)).set 0 (gZ m.ps bd)⟩
theorem startM_T (p : Prg) (s : ByteArray) (bd : Nat) : startM (machOf p s) p.names.length bd = startT p s bd := rfl
theorem roomM_le {m : Mach} (hn : m.ins.length ≤ 20000) (hs : m.ps.length ≤ 2000001) : roomM m ≤ 20000 * 2000001 * 65 := Nat.mul_le_mul_right 65 (Nat.mul_le_mul hn hs)
theorem KeyOk.memM {m : Mach} {n : Nat} {mk : Nat → Bool} {k : Key} (h : KeyOk n m.ps.length 0 mk k) (hn : m.ins.length = n) : k ∈ keys m :=
  mem_keys.2 ⟨by rw [hn]; exact h.at_, by have := h.hi; omega, by have := h.lv; omega⟩
theorem add_same {V : Vis} {k : Key} (h : V k = true) : V.add k = V := by
  funext j
  unfold Vis.add
  split
  · rename_i e; rw [e, h]
  · rfl
structure RSt where
  F1 : Hp
  T : Tbl
  V : Vis
  stk : List (Thr × Value)
  A : Nat
  cap : Nat
  W : WQ
  wv : List Value
  Aw : Option Nat
  cw : Nat
  Aq : Option Nat
  cq : Nat
structure ROk (F0 : Hp) (m : Mach) (p : Prg) (r : List (Option (List Int))) (st : RSt) : Prop where
  sub : Sub F0 st.F1
  tbl : TblOk p.insts.length (mkOf p.insts) m.ps.length st.T st.V
  stk_ : ∀ x ∈ st.stk, TOk st.F1 p m.ps.length 0 x
  run : ∃ pre, r = pre ++ evs m st.V (thrs st.stk) ∧ st.W = refR pre
  wv_ : WvOk st.F1 (2 * p.names.length + 2) st.W.1 st.wv
  aw : st.Aw = none → st.cw = 0 ∧ st.W.1.length = 0
  aq : st.Aq = none → st.cq = 0 ∧ st.W.2.length = 0
  len : st.stk.length + unvis m st.V ≤ roomM m + 1
  l1 : st.W.1.length + unvis m st.V ≤ roomM m
  l2 : st.W.2.length + unvis m st.V ≤ roomM m
theorem stR_len (W : WQ) : ∀ ev : List (Option (List Int)), (ev.foldl stR W).1.length ≤ W.1.length + ev.length ∧ (ev.foldl stR W).2.length ≤ W.2.length + ev.length
  | [] => ⟨Nat.le_refl _, Nat.le_refl _⟩
  | e :: ev => by
    have := stR_len (stR W e) ev
    simp only [List.foldl_cons, List.length_cons]
    have h1 : (stR W e).1.length ≤ W.1.length + 1 ∧ (stR W e).2.length ≤ W.2.length + 1 := by
      cases e with
      | none => simp [stR]
      | some h =>
        simp only [stR]
        unfold addW
        split <;> simp
    omega
section
variable {F0 F1 F2 : Hp} {m : Mach} {p : Prg} {r : List (Option (List Int))} {T T2 : Tbl} {V : Vis} {stk' stk2 : List (Thr × Value)} {x : Thr × Value} {A cap A2 cap2 cw cq cw2 cq2 : Nat} {W W2 : WQ} {wv wv2 : List Value} {Aw Aq Aw2 Aq2 : Option Nat}
theorem ROk.seen (h : ROk F0 m p r ⟨F1, T, V, stk' ++ [x], A, cap, W, wv, Aw, cw, Aq, cq⟩) (hv : V x.1.key = true) (hT : TblOk p.insts.length (mkOf p.insts) m.ps.length T2 (V.add x.1.key)) :
    ROk F0 m p r ⟨F1, T2, V, stk', A2, cap2, W, wv, Aw, cw, Aq, cq⟩ := by
  obtain ⟨h1, h2, h3, ⟨pre, e1, e2⟩, h5, h6, h7, h8, h9, h10⟩ := h
  dsimp only at *
  rw [add_same hv] at hT
  refine ⟨h1, hT, fun y hy => h3 y (by simp [hy]), ⟨pre, ?_, e2⟩, h5, h6, h7, ?_, h9, h10⟩
  · rw [thrs_snoc, evs_skip hv] at e1; exact e1
  · dsimp only; simp at h8; omega
theorem ROk.step (h : ROk F0 m p r ⟨F1, T, V, stk' ++ [x], A, cap, W, wv, Aw, cw, Aq, cq⟩) (hs : Sub F1 F2) (hkm : x.1.key ∈ keys m) (hv : V x.1.key = false) (hT : TblOk p.insts.length (mkOf p.insts) m.ps.length T2 (V.add x.1.key))
    (h2 : ∀ y ∈ stk2, TOk F2 p m.ps.length 0 y) (ev : List (Option (List Int))) (hev : ev.length ≤ 1) (hf : evs m V (x.1 :: thrs stk') = ev ++ evs m (V.add x.1.key) (thrs stk2)) (hl : stk2.length ≤ stk'.length + 2) (hW : W2 = ev.foldl stR W)
    (hwv : WvOk F2 (2 * p.names.length + 2) W2.1 wv2) (haw : Aw2 = none → cw2 = 0 ∧ W2.1.length = 0) (haq : Aq2 = none → cq2 = 0 ∧ W2.2.length = 0) :
    ROk F0 m p r ⟨F2, T2, V.add x.1.key, stk2, A2, cap2, W2, wv2, Aw2, cw2, Aq2, cq2⟩ := by
  obtain ⟨g1, _, g3, ⟨pre, e1, e2⟩, g5, g6, g7, g8, g9, g10⟩ := h
  dsimp only at *
  have hun := unvis_add hkm hv
  have hln := stR_len W ev
  rw [← hW] at hln
  refine ⟨g1.trans hs, hT, h2, ⟨pre ++ ev, ?_, ?_⟩, hwv, haw, haq, ?_, ?_, ?_⟩
  · rw [thrs_snoc, hf] at e1; rw [e1, List.append_assoc]
  · dsimp only; rw [hW, e2]; unfold refR; rw [List.foldl_append]
  all_goals dsimp only
  · simp at g8; omega
  · omega
  · omega
end
theorem perm_in (a b c d e f : Chunk) (R M : List Chunk) : (a :: b :: c :: d :: e :: f :: (R ++ M)).Perm (b :: c :: (R ++ (a :: d :: e :: f :: M))) := by
  have h : (a :: d :: e :: f :: (R ++ M)).Perm (R ++ (a :: d :: e :: f :: M)) := List.perm_append_comm_assoc [a, d, e, f] R M
  exact ((List.Perm.swap b a _).trans (List.Perm.cons b (List.Perm.swap c a _))).trans (List.Perm.cons b (List.Perm.cons c h))
theorem perm_out (b c a d e f : Chunk) (R M : List Chunk) : (b :: c :: (R ++ (a :: d :: e :: f :: M))).Perm (b :: c :: a :: d :: e :: f :: (R ++ M)) :=
  List.Perm.cons b (List.Perm.cons c (List.perm_append_comm_assoc R [a, d, e, f] M))
theorem WS.nones {F : Hp} {M : List Chunk} {w0 w : World} : ∀ (C : List Chunk), (∀ c ∈ C, c.blk = none) → WS F M w0 w → WS F (C ++ M) w0 w
  | [], _, s => s
  | c :: C, h, s => WS.noneC c (h c (.head _)) (WS.nones C (fun d hd => h d (.tail _ hd)) s)
theorem WS.begin_ {F : Hp} {M : List Chunk} {w0 w : World} {b b' bw np : Nat} {cs cw : List Value} {t1 t2 t3 t4 t5 : TypeId} (s : WS F (blk b cs t1 :: blk b' (zcells [.slice none 0 0] np) t2 :: blk bw cw t3 :: M) w0 w) (hl : cs.length = 4) :
    WS F (blk bw cw t3 :: blk b' ((List.replicate np ((none, []) : Option Nat × List Bool)).map tblV) t2 :: row (some b) 1 t1 4 cs :: row none 0 t4 1 [] :: row none 0 t5 1 [] :: ((List.replicate np ((none, []) : Option Nat × List Bool)).map tblC ++ M)) w0 w := by
  rw [zcells_nil] at s
  have s := s.blkRow (sz := 4) 0 rfl 1 (by simpa using hl)
  have s : WS F (row (some b) 1 t1 4 cs :: blk b' _ t2 :: blk bw cw t3 :: M) w0 w := s
  have hn : ∀ c ∈ (row none 0 t4 1 [] :: row none 0 t5 1 [] :: (List.replicate np ((none, []) : Option Nat × List Bool)).map tblC), c.blk = none := by
    intro c hc
    simp only [List.mem_cons, List.mem_map, List.mem_replicate] at hc
    rcases hc with rfl | rfl | ⟨x, ⟨_, rfl⟩, rfl⟩ <;> rfl
  have s := WS.nones _ hn s
  refine s.perm ?_
  have e1 : ∀ (X : List Chunk), (X ++ (row (some b) 1 t1 4 cs :: blk b' ((List.replicate np ((none, []) : Option Nat × List Bool)).map tblV) t2 :: blk bw cw t3 :: M)).Perm (blk bw cw t3 :: blk b' ((List.replicate np ((none, []) : Option Nat × List Bool)).map tblV) t2 :: row (some b) 1 t1 4 cs :: (X ++ M)) := by
    intro X
    have h1 := List.perm_append_comm_assoc X [row (some b) 1 t1 4 cs, blk b' ((List.replicate np ((none, []) : Option Nat × List Bool)).map tblV) t2, blk bw cw t3] M
    refine h1.trans ?_
    have h2 : ([row (some b) 1 t1 4 cs, blk b' ((List.replicate np ((none, []) : Option Nat × List Bool)).map tblV) t2, blk bw cw t3] : List Chunk).Perm [blk bw cw t3, blk b' ((List.replicate np ((none, []) : Option Nat × List Bool)).map tblV) t2, row (some b) 1 t1 4 cs] := by
      have := List.reverse_perm ([blk bw cw t3, blk b' ((List.replicate np ((none, []) : Option Nat × List Bool)).map tblV) t2, row (some b) 1 t1 4 cs] : List Chunk)
      exact this
    exact h2.append_right _
  exact e1 _
theorem start_okR {F FA : Hp} {m : Mach} {p : Prg} {k b c b48 : Nat} {r : List (Option (List Int))} (hr : evs m noV [startM m p.names.length k] = r) (hs : Sub F FA) (hk : k < m.ps.length) (hn : 0 < p.insts.length)
    (hA : (row (some b) c 3 1 (((List.replicate (2 * p.names.length + 2) (-1 : Int)).set 0 (gZ m.ps k)).map (.int .i64 ·))).At FA) :
    ROk F m p r (RSt.mk FA (List.replicate m.ps.length (none, [])) noV [(startM m p.names.length k, rowV (some b) (2 * p.names.length + 2) c)] b48 1 ([], []) [] none 0 none 0) := by
  have hu := unvis_le m noV
  have hu' : unvis m noV ≤ roomM m := hu
  refine ⟨hs, TblOk.empty _ _ _, fun x hx => ?_, ⟨[], ?_, rfl⟩, WvOk.nil _ _, fun _ => ⟨rfl, rfl⟩, fun _ => ⟨rfl, rfl⟩, ?_, ?_, ?_⟩
  · obtain rfl := List.mem_singleton.1 hx
    refine ⟨⟨hn, Nat.zero_le _, by show k < 0 + m.ps.length; omega, Nat.le_refl _, mk_64 _⟩, by simp [startM], _, _, rfl, rdI_row (cap := c) (e := 3) hA (by simp [startM]) (fun e => by cases e)⟩
  · rw [← hr]; rfl
  all_goals dsimp only
  · show 1 + _ ≤ _; omega
  · show 0 + _ ≤ _; omega
  · show 0 + _ ≤ _; omega
end Go.V
namespace Go.V
theorem perm_way (b9 b8 bw bb b7 stk ways waits : Chunk) (R : List Chunk) : (b9 :: b8 :: bw :: bb :: b7 :: stk :: ways :: waits :: R).Perm (bw :: ways :: b9 :: b8 :: bb :: b7 :: stk :: waits :: R) := by
  have h1 : (b9 :: b8 :: bw :: bb :: b7 :: stk :: ways :: waits :: R).Perm (bw :: b9 :: b8 :: bb :: b7 :: stk :: ways :: waits :: R) := List.perm_middle (l₁ := [b9, b8])
  have h2 : (b9 :: b8 :: bb :: b7 :: stk :: ways :: waits :: R).Perm (ways :: b9 :: b8 :: bb :: b7 :: stk :: waits :: R) := List.perm_middle (l₁ := [b9, b8, bb, b7, stk])
  exact h1.trans (List.Perm.cons bw h2)
end Go.V
namespace Go.V
/-! ### The best way -/
def BestV (h : Hp) (L : Nat) (b : Option (List Int)) (v : Value) : Prop := (b = none → v = .slice none 0 0) ∧ ∀ mm, b = some mm → mm.length = L ∧ ∃ A c, v = .slice A L c ∧ RdI h .i64 A L mm
theorem take_snoc {α : Type} {l : List α} {d : α} {i : Nat} (h : i < l.length) : l.take (i + 1) = l.take i ++ [l.getD i d] := by
  rw [List.take_add_one, List.getElem?_eq_getElem h]
  simp [List.getD, h]
theorem upd_lt {b s : List Int} (h : gZ b 1 < gZ s 1) : upd (some b) s = some s := by simp only [upd]; rw [if_pos h]
theorem upd_ge' {b s : List Int} (h : ¬ gZ b 1 < gZ s 1) : upd (some b) s = some b := by simp only [upd]; rw [if_neg h]
/-- A list of places and an error that is read. -/
def RefP (x : List Int × Int) (v : Value) (h : Hp) : Prop := ∃ A c, v = .tuple #[.slice A x.1.length c, .int .i64 x.2] ∧ RdI h .i64 A x.1.length x.1
def gate2 (p : Prg) (s : ByteArray) (at_ : Int) : Int := if ¬ checkOk p then 1 else if ¬ brdM p.raw s at_ then 3 else 0
theorem gate2_ok {p : Prg} {s : ByteArray} {at_ : Int} (h : gate2 p s at_ = 0) : checkOk p ∧ brdM p.raw s at_ := by
  unfold gate2 at h
  split at h
  · cases h
  · split at h
    · cases h
    · rename_i h1 h2; exact ⟨Decidable.not_not.1 h1, Decidable.not_not.1 h2⟩
def machFrom (p : Prg) (s : ByteArray) (at_ : Int) (longest : Bool) : List Int × Int := ansOf (gate2 p s at_) (Bst longest (hitsOf p s (firstOf (mP p.raw s) at_)))
def machMatch (p : Prg) (s : ByteArray) (at_ : Int) (longest : Bool) : List Int × Int := ansOf (gate2 p s at_) (firstHit p s longest ((mP p.raw s).length - firstOf (mP p.raw s) at_) (firstOf (mP p.raw s) at_))
/-- So many borders are there from a border on. -/
def bordersN (raw : Bool) (s : ByteArray) (at_ : Int) : Nat := (mP raw s).length - firstOf (mP raw s) at_
theorem gate_eq {p : Prg} {s : ByteArray} {at_ : Int} (h : gate p s at_ = 0) : gate2 p s at_ = 0 := by
  obtain ⟨h1, h2, _⟩ := gate_ok h
  unfold gate2
  rw [if_neg (by simpa using h1), if_neg (by simpa using h2)]
end Go.V
namespace Go.V
open Go.RowKit
/-! ### The fixed call of the law -/
def pA : Prg := ⟨[⟨1, [⟨97, 97⟩], 1, 0, 0⟩, ⟨7, [], 0, 0, 0⟩], [], false⟩
def sBA : ByteArray := ⟨#[98, 97]⟩
theorem pA_us : mU false sBA = [98, 97] := by decide +kernel
theorem pA_ps : mP false sBA = [0, 1, 2] := by decide +kernel
theorem pA_gate : gate pA sBA 0 = 0 := by decide +kernel
theorem pA_first : firstOf (mP false sBA) 0 = 0 := by rw [pA_ps]; rfl
theorem pA_mach : machOf pA sBA = ⟨pA.insts, [98, 97], [0, 1, 2], sBA⟩ := by
  show (⟨pA.insts, mU false sBA, mP false sBA, sBA⟩ : Mach) = _
  rw [pA_us, pA_ps]
theorem pA_key {a b c : Nat} (ha : a < 2) (hb : b < 3) (hc : c < 65) : (a, b, c) ∈ keys (machOf pA sBA) := by
  rw [pA_mach]
  exact mem_keys.2 ⟨ha, hb, hc⟩
theorem pA_hits0 : hitsOf pA sBA 0 = [] := by
  unfold hitsOf
  have h : (machOf pA sBA).step (startT pA sBA 0) = .die := by
    rw [pA_mach]
    have : startT pA sBA 0 = ⟨0, 0, 64, [0, -1]⟩ := by
      unfold startT; rw [show mP pA.raw sBA = _ from pA_ps]; rfl
    rw [this]
    have h1 : ¬ hasU [⟨97, 97⟩] 98 := by decide
    simp [Mach.step, pA, gI, gZ, h1]
  rw [fin_die (pA_key (by decide) (by decide) (by decide)) rfl h, fin_nil]
theorem pA_hits1 : hitsOf pA sBA 1 = [[1, 2]] := by
  unfold hitsOf
  have e0 : startT pA sBA 1 = ⟨0, 1, 64, [1, -1]⟩ := by
    unfold startT; rw [show mP pA.raw sBA = _ from pA_ps]; rfl
  have h : (machOf pA sBA).step (startT pA sBA 1) = .go ⟨1, 2, 64, [1, -1]⟩ := by
    rw [pA_mach, e0]
    have h1 : hasU [⟨97, 97⟩] 97 := by decide
    simp [Mach.step, pA, gI, gZ, h1]
  have h2 : (machOf pA sBA).step ⟨1, 2, 64, [1, -1]⟩ = .hit [1, 2] := by
    rw [pA_mach]
    simp [Mach.step, pA, gI, gZ]
  rw [fin_go (pA_key (by decide) (by decide) (by decide)) rfl h]
  rw [fin_hit (pA_key (by decide) (by decide) (by decide)) ?_ h2, fin_nil]
  rw [e0]; simp [Vis.add, Thr.key, noV]
theorem pA_match (l : Bool) : backMatch pA sBA 0 l = ([1, 2], 0) := by
  unfold backMatch
  rw [show mP pA.raw sBA = [0, 1, 2] from pA_ps, show firstOf [0, 1, 2] 0 = 0 from rfl]
  refine ans_some pA_gate ?_
  have h0 : Bst l (hitsOf pA sBA 0) = none := by rw [pA_hits0]; exact bst_none.2 rfl
  have h1 : Bst l (hitsOf pA sBA 1) = some [1, 2] := by rw [pA_hits1]; cases l <;> rfl
  rw [first_none (by decide) h0]
  exact first_some (by decide) h1

/-! ### Calls, as data -/
structure Opn where
  p : Prg
  s : ByteArray
  at_ : Int
  longest : Bool
  frm : Bool
def gO (os : List Opn) (i : Nat) : Opn := os.getD i ⟨⟨[], [], false⟩, ⟨#[]⟩, 0, false, false⟩
structure RdO (h : Hp) (A : Option Addr) (n : Nat) (os : List Opn) : Prop where
  len : os.length = n
  at_ : 0 < n → ∃ b o, A = some ⟨b, o, none⟩ ∧ ∀ i, i < n → ∃ Ai ni ci Bi mi di, mi ≤ di ∧ RdG h Ai ni Bi mi (gO os i).p ∧ I64 (gO os i).at_ ∧ (gO os i).s.size ≤ Big ∧
    atN h b (o + i * 7) 7 = some [.slice Ai ni ci, .slice Bi mi di, .bool (gO os i).p.raw, .string (gO os i).s, .int .i64 (gO os i).at_, .bool (gO os i).longest, .bool (gO os i).frm]
theorem RdO.mono {h h' : Hp} {A : Option Addr} {n : Nat} {os : List Opn} (r : RdO h A n os) (s : Sub h h') : RdO h' A n os :=
  ⟨r.len, fun hn => let ⟨b, o, e, hc⟩ := r.at_ hn; ⟨b, o, e, fun i hi => let ⟨Ai, ni, ci, Bi, mi, di, h1, h2, h3, h4, h5⟩ := hc i hi; ⟨Ai, ni, ci, Bi, mi, di, h1, h2.mono s, h3, h4, atN_mono s h5⟩⟩⟩
def playA (o : Opn) : List Int × Int := if o.frm then backFrom o.p o.s o.at_ o.longest else backMatch o.p o.s o.at_ o.longest
theorem ans_len {g : Int} {r : Option (List Int)} {m k : Nat} (h : ∀ l, r = some l → l.length ≤ k) : (ansOf g r).1.length ≤ k := by
  unfold ansOf
  split
  · exact Nat.zero_le _
  · split
    · rename_i l; exact h l rfl
    · exact Nat.zero_le _
end Go.V
namespace Go.V
/-! ### Places rise -/
theorem uns_rise {s : ByteArray} : ∀ k q, (∀ x ∈ uns s k q, q ≤ x.1 ∧ x.1 < s.size) ∧ (uns s k q).Pairwise fun x y => x.1 < y.1
  | 0, q => ⟨fun x hx => by simp [uns] at hx, by simp [uns]⟩
  | k + 1, q => by
    have hw := unt_le s q
    obtain ⟨h1, h2⟩ := uns_rise (s := s) k (q + (unt s q).2)
    simp only [uns]
    split
    · refine ⟨fun x hx => ?_, List.pairwise_cons.2 ⟨fun y hy => ?_, h2⟩⟩
      · rcases List.mem_cons.1 hx with rfl | hx
        · exact ⟨Nat.le_refl _, by assumption⟩
        · have := h1 x hx; omega
      · have := h1 y hy
        show q < y.1; omega
    · exact ⟨fun x hx => (by cases hx), .nil⟩
theorem mP_rise (raw : Bool) (s : ByteArray) : (mP raw s).Pairwise (· < ·) := by
  unfold mP
  cases raw
  · simp only [Bool.false_eq_true, if_false, pL]
    obtain ⟨h1, h2⟩ := uns_rise (s := s) (s.size - 0) 0
    refine List.pairwise_append.2 ⟨?_, List.pairwise_singleton _ _, fun x hx y hy => ?_⟩
    · rw [List.pairwise_map]
      exact h2.imp fun {a b} h => by omega
    · obtain ⟨z, hz, rfl⟩ := List.mem_map.1 hx
      rw [List.mem_singleton.1 hy]
      have := (h1 z hz).2
      omega
  · simp only [if_true]
    rw [List.pairwise_map]
    exact List.pairwise_lt_range.imp fun {a b} h => by omega
theorem place_lt {raw : Bool} {s : ByteArray} {i j : Nat} (h : i < j) (hj : j < (mP raw s).length) : gZ (mP raw s) i < gZ (mP raw s) j := by
  have := List.pairwise_iff_getElem.1 (mP_rise raw s) i j (by omega) hj h
  rwa [gZ_at, gZ_at] at this
theorem place_le {raw : Bool} {s : ByteArray} {i j : Nat} (h : i ≤ j) (hj : j < (mP raw s).length) : gZ (mP raw s) i ≤ gZ (mP raw s) j := by
  rcases Nat.lt_or_ge i j with h' | h'
  · exact Int.le_of_lt (place_lt h' hj)
  · obtain rfl : i = j := by omega
    exact Int.le_refl _
theorem first_of {raw : Bool} {s : ByteArray} {i : Nat} (hi : i < (mP raw s).length) : firstOf (mP raw s) (gZ (mP raw s) i) = i := by
  have hf := firstOf_lt (l := mP raw s) (p := gZ (mP raw s) i) ⟨i, hi, rfl⟩
  rcases Nat.lt_trichotomy (firstOf (mP raw s) (gZ (mP raw s) i)) i with h | h | h
  · have := place_lt h hi; omega
  · exact h
  · have := place_lt h hf.1; omega

/-! ### What the slots of a hit hold -/
def slOk (sl : List Int) (top : Int) : Prop := ∀ x ∈ sl, x = -1 ∨ (0 ≤ x ∧ x ≤ top)
theorem slOk_set {sl : List Int} {top z : Int} {i : Nat} (h : slOk sl top) (hz : 0 ≤ z ∧ z ≤ top) : slOk (sl.set i z) top := fun x hx => by
  rcases List.mem_or_eq_of_mem_set hx with hx | rfl
  · exact h x hx
  · exact .inr hz
theorem slOk_mono {sl : List Int} {a b : Int} (h : slOk sl a) (hab : a ≤ b) : slOk sl b := fun x hx => by
  rcases h x hx with h | h
  · exact .inl h
  · exact .inr ⟨h.1, by omega⟩
structure ThrI (p : Prg) (s : ByteArray) (bd : Nat) (t : Thr) : Prop where
  lo : bd ≤ t.bd
  hi : t.bd < (mP p.raw s).length
  len : t.sl.length = 2 * p.names.length + 2
  zero : gZ t.sl 0 = gZ (mP p.raw s) bd
  ok : slOk t.sl (gZ (mP p.raw s) t.bd)
structure HitI (p : Prg) (s : ByteArray) (bd : Nat) (sl : List Int) : Prop where
  len : sl.length = 2 * p.names.length + 2
  zero : gZ sl 0 = gZ (mP p.raw s) bd
  one : gZ (mP p.raw s) bd ≤ gZ sl 1
  ok : slOk sl (gZ sl 1)
  end_ : ∃ e, e < (mP p.raw s).length ∧ gZ sl 1 = gZ (mP p.raw s) e
theorem gZ_ne {sl : List Int} {i j : Nat} {z : Int} (h : i ≠ j) : gZ (sl.set i z) j = gZ sl j := by simp [gZ, List.getD, List.getElem?_set_ne h]
theorem place_pos {raw : Bool} {s : ByteArray} {i : Nat} (h : i < (mP raw s).length) : 0 ≤ gZ (mP raw s) i := by
  obtain ⟨q, h1, _⟩ := place_nat h
  omega
theorem hit_inv {p : Prg} {s : ByteArray} {bd : Nat} (hck : checkOk p) : ∀ (n : Nat) (V : Vis) (S : List Thr), 3 * unvis (machOf p s) V + S.length ≤ n → (∀ t ∈ S, ThrI p s bd t) → ∀ h ∈ (fin (machOf p s) V S).1, HitI p s bd h := by
  intro n
  induction n with
  | zero =>
    intro V S hn hS h hh
    have : S = [] := List.eq_nil_of_length_eq_zero (by omega)
    subst this; rw [fin_nil] at hh; cases hh
  | succ n ih =>
    intro V S hn hS h hh
    cases S with
    | nil => rw [fin_nil] at hh; cases hh
    | cons t S =>
      simp only [List.length_cons] at hn
      by_cases hs : V t.key = true ∨ t.key ∉ keys (machOf p s)
      · have e : fin (machOf p s) V (t :: S) = fin (machOf p s) V S := by rw [fin]; simp [hs]
        rw [e] at hh
        exact ih V S (by omega) (fun u hu => hS u (.tail _ hu)) h hh
      · have hk : t.key ∈ keys (machOf p s) := Classical.byContradiction fun h => hs (.inr h)
        have hv : V t.key = false := by simpa using fun h => hs (.inl h)
        have hlt := unvis_add hk hv
        have hat : t.at_ < p.insts.length := (mem_keys.1 hk).1
        have ht := hS t (.head _)
        have hSS : ∀ u ∈ S, ThrI p s bd u := fun u hu => hS u (.tail _ hu)
        have hin := hck.2.2 t.at_ hat
        obtain ⟨xx, yy, nn, hxx, hyy, hnn, ho1, ho9, hX, hY, hSet, hSv, hLk, hMk⟩ := inst_nat hin
        have hpl := mP_len p.raw s
        have hpos := place_pos ht.hi
        -- what a step makes
        have key : (∀ a, (machOf p s).step t = .go a → ThrI p s bd a) ∧ (∀ a b, (machOf p s).step t = .fork a b → ThrI p s bd a ∧ ThrI p s bd b) ∧ (∀ sl, (machOf p s).step t = .hit sl → HitI p s bd sl) := by
          obtain ⟨h1, h2, h3, h4, h5⟩ := ht
          have hgi : gI (machOf p s).ins t.at_ = gI p.insts t.at_ := rfl
          simp only [Mach.step, hgi]
          by_cases e1 : (gI p.insts t.at_).op = 1
          · simp only [e1, if_true]
            by_cases e2 : t.bd = (machOf p s).us.length
            · rw [if_pos e2]
              exact ⟨fun a h => (by cases h), fun a b h => (by cases h), fun sl h => (by cases h)⟩
            · rw [if_neg e2]
              have e2' : t.bd ≠ (mU p.raw s).length := e2
              split
              · refine ⟨fun a h => ?_, fun a b h => (by cases h), fun sl h => (by cases h)⟩
                cases h
                exact ⟨by show bd ≤ t.bd + 1; omega, by show t.bd + 1 < _; omega, h3, h4, slOk_mono h5 (place_le (j := t.bd + 1) (Nat.le_succ _) (by omega))⟩
              · exact ⟨fun a h => (by cases h), fun a b h => (by cases h), fun sl h => (by cases h)⟩
          by_cases e3 : (gI p.insts t.at_).op = 2
          · simp only [e3]
            refine ⟨fun a h => (by cases h), fun a b h => ?_, fun sl h => (by cases h)⟩
            cases h
            exact ⟨⟨h1, h2, h3, h4, h5⟩, ⟨h1, h2, h3, h4, h5⟩⟩
          by_cases e4 : (gI p.insts t.at_).op = 3
          · simp only [e4]
            refine ⟨fun a h => ?_, fun a b h => (by cases h), fun sl h => (by cases h)⟩
            cases h
            have hn2 := hSv e4
            have hnt : (gI p.insts t.at_).n.toNat = nn := by omega
            refine ⟨h1, h2, by show (t.sl.set _ _).length = _; simpa using h3, ?_, slOk_set h5 ⟨hpos, Int.le_refl _⟩⟩
            show gZ (t.sl.set _ _) 0 = _
            rw [hnt, gZ_ne (by omega)]; exact h4
          by_cases e5 : (gI p.insts t.at_).op = 4
          · simp only [e5]
            by_cases hh2 : holds (gI p.insts t.at_).n (machOf p s).text (gZ (machOf p s).ps t.bd).toNat = true
            · simp only [hh2]
              refine ⟨fun a h => ?_, fun a b h => (by cases h), fun sl h => (by cases h)⟩
              cases h; exact ⟨h1, h2, h3, h4, h5⟩
            · simp only [hh2]
              exact ⟨fun a h => (by cases h), fun a b h => (by cases h), fun sl h => (by cases h)⟩
          by_cases e6 : (gI p.insts t.at_).op = 5
          · simp only [e6]
            refine ⟨fun a h => ?_, fun a b h => (by cases h), fun sl h => (by cases h)⟩
            cases h; exact ⟨h1, h2, h3, h4, h5⟩
          by_cases e7 : (gI p.insts t.at_).op = 6
          · simp only [e7]
            by_cases hh2 : (t.lv : Int) ≤ (gI p.insts t.at_).n
            · simp only [hh2, if_true]
              exact ⟨fun a h => (by cases h), fun a b h => (by cases h), fun sl h => (by cases h)⟩
            · simp only [hh2, if_false]
              refine ⟨fun a h => ?_, fun a b h => (by cases h), fun sl h => (by cases h)⟩
              cases h; exact ⟨h1, h2, h3, h4, h5⟩
          by_cases e8 : (gI p.insts t.at_).op = 7
          · simp only [e8]
            refine ⟨fun a h => (by cases h), fun a b h => (by cases h), fun sl h => ?_⟩
            cases h
            have hg1 : gZ (t.sl.set 1 (gZ (machOf p s).ps t.bd)) 1 = gZ (mP p.raw s) t.bd := gZ_set (by omega)
            refine ⟨by simpa using h3, by rw [gZ_ne (by omega)]; exact h4, ?_, ?_, t.bd, h2, hg1⟩
            · rw [hg1]; exact place_le h1 h2
            · rw [hg1]; exact slOk_set h5 ⟨hpos, Int.le_refl _⟩
          by_cases e9 : (gI p.insts t.at_).op = 8
          · simp only [e9]
            exact ⟨fun a h => (by cases h), fun a b h => (by cases h), fun sl h => (by cases h)⟩
          · simp only [e1, e3, e4, e5, e6, e7, e8, e9, if_false]
            refine ⟨fun a h => ?_, fun a b h => (by cases h), fun sl h => (by cases h)⟩
            cases h; exact ⟨h1, h2, h3, h4, h5⟩
        cases he : (machOf p s).step t with
        | die => rw [fin_die hk hv he] at hh; exact ih _ S (by omega) hSS h hh
        | go a =>
          rw [fin_go hk hv he] at hh
          refine ih _ (a :: S) (by simp only [List.length_cons]; omega) (fun u hu => ?_) h hh
          rcases List.mem_cons.1 hu with rfl | hu
          · exact key.1 _ he
          · exact hSS u hu
        | fork a b =>
          rw [fin_fork hk hv he] at hh
          refine ih _ (a :: b :: S) (by simp only [List.length_cons]; omega) (fun u hu => ?_) h hh
          rcases List.mem_cons.1 hu with rfl | hu
          · exact (key.2.1 _ _ he).1
          · rcases List.mem_cons.1 hu with rfl | hu
            · exact (key.2.1 _ _ he).2
            · exact hSS u hu
        | hit sl =>
          rw [fin_hit hk hv he] at hh
          rcases List.mem_cons.1 hh with rfl | hh
          · exact key.2.2 _ he
          · exact ih _ S (by omega) hSS h hh
theorem hits_ok {p : Prg} {s : ByteArray} {bd : Nat} (hck : checkOk p) (hb : bd < (mP p.raw s).length) : ∀ h ∈ hitsOf p s bd, HitI p s bd h := by
  refine hit_inv hck _ noV _ (Nat.le_refl _) fun t ht => ?_
  obtain rfl := List.mem_singleton.1 ht
  refine ⟨Nat.le_refl _, hb, by simp [startT], ?_, fun x hx => ?_⟩
  · show gZ (List.set _ 0 _) 0 = _
    rw [gZ_set (by simp)]
  · rcases List.mem_or_eq_of_mem_set hx with hx | rfl
    · exact .inl (List.mem_replicate.1 hx).2
    · exact .inr ⟨place_pos hb, Int.le_refl _⟩
theorem upd_mem : ∀ (l : List (List Int)) (b0 : Option (List Int)) (b : List Int), l.foldl upd b0 = some b → b ∈ l ∨ b0 = some b
  | [], b0, b, h => .inr h
  | a :: l, b0, b, h => by
    rcases upd_mem l _ b h with h | h
    · exact .inl (.tail _ h)
    · unfold upd at h
      split at h
      · cases h; exact .inl (.head _)
      · split at h
        · cases h; exact .inl (.head _)
        · exact .inr h
theorem bst_mem {l : Bool} {hs : List (List Int)} {b : List Int} (h : Bst l hs = some b) : b ∈ hs := by
  unfold Bst at h
  cases l
  · simp only [Bool.false_eq_true, if_false] at h
    exact List.mem_of_mem_head? h
  · simp only [if_true] at h
    rcases upd_mem hs none b h with h | h
    · exact h
    · cases h
theorem first_mem {p : Prg} {s : ByteArray} {l : Bool} : ∀ (k b : Nat) (m : List Int), firstHit p s l k b = some m → ∃ c, b ≤ c ∧ c < b + k ∧ Bst l (hitsOf p s c) = some m ∧ ∀ j, b ≤ j → j < c → hitsOf p s j = []
  | 0, b, m, h => by cases h
  | k + 1, b, m, h => by
    cases hb : Bst l (hitsOf p s b) with
    | some m' =>
      rw [first_some (by omega) hb] at h
      cases h
      exact ⟨b, Nat.le_refl _, by omega, hb, fun j h1 h2 => by omega⟩
    | none =>
      rw [first_none (by omega) hb] at h
      obtain ⟨c, h1, h2, h3, h4⟩ := first_mem _ _ m h
      refine ⟨c, by omega, by omega, h3, fun j j1 j2 => ?_⟩
      rcases Nat.lt_or_ge b j with h' | h'
      · exact h4 j (by omega) j2
      · obtain rfl : j = b := by omega
        exact bst_none.1 hb
theorem play_len {o : Opn} : (playA o).1.length ≤ 100 := by
  by_cases hg : gate o.p o.s o.at_ = 0
  · obtain ⟨hck, hbr, _⟩ := gate_ok hg
    have hf := firstOf_lt (mem_place hbr)
    have h40 := hck.2.1.1
    unfold playA
    split
    · refine ans_len (m := 0) fun l h => ?_
      have := (hits_ok hck hf.1 l (bst_mem h)).len
      omega
    · refine ans_len (m := 0) fun l h => ?_
      obtain ⟨c, h1, h2, h3, _⟩ := first_mem _ _ _ h
      have := (hits_ok hck (by omega) l (bst_mem h3)).len
      omega
  · unfold playA backFrom backMatch
    split
    · rw [ans_bad hg]; exact Nat.zero_le _
    · rw [ans_bad hg]; exact Nat.zero_le _
end Go.V
namespace Go.V
open Go.RowKit
theorem back_mach {p : Prg} {s : ByteArray} {at_ : Int} {l : Bool} (h : gate p s at_ = 0) : backFrom p s at_ l = machFrom p s at_ l ∧ backMatch p s at_ l = machMatch p s at_ l := by
  unfold backFrom backMatch machFrom machMatch
  rw [h, gate_eq h]
  exact ⟨rfl, rfl⟩
theorem gate_form {p : Prg} {s : ByteArray} {at_ : Int} (h : ¬ checkOk p) : gate p s at_ = 1 := if_pos h
theorem gate_range {p : Prg} {s : ByteArray} {at_ : Int} (h : checkOk p) (h2 : ¬ brdM p.raw s at_) : gate p s at_ = 3 := by unfold gate; rw [if_neg (by simpa using h), if_pos h2]
theorem gate_large {p : Prg} {s : ByteArray} {at_ : Int} (h : checkOk p) (h2 : brdM p.raw s at_) (h3 : 1048576 < p.insts.length * ((mP p.raw s).length - firstOf (mP p.raw s) at_)) : gate p s at_ = 6 := by unfold gate; rw [if_neg (by simpa using h), if_neg (by simpa using h2), if_pos h3]
theorem gate_good {p : Prg} {s : ByteArray} {at_ : Int} (h : checkOk p) (h2 : brdM p.raw s at_) (h3 : ¬ 1048576 < p.insts.length * ((mP p.raw s).length - firstOf (mP p.raw s) at_)) : gate p s at_ = 0 := by unfold gate; rw [if_neg (by simpa using h), if_neg (by simpa using h2), if_neg h3]
/-- A row that is handed over is read from now on. -/
theorem rd_of_row {h : Hp} {A : Option Nat} {cap e n : Nat} {xs : List Int} (r : (row A cap e 1 (xs.map (Value.int .i64 ·))).At h) (hn : xs.length = n) (hA : A = none → cap = 0 ∧ n = 0) : RdI h .i64 (A.map fun b => ⟨b, 0, none⟩) n xs := rdI_row (cap := cap) (e := e) r hn fun e => (hA e).2
theorem rd_pA {h : Hp} {b b2 : Nat} {t1 t2 : TypeId} (hr : (blk b [.int .i64 1, .slice (some ⟨b2, 0, none⟩) 1 1, .int .i64 1, .int .i64 0, .int .i64 0, .int .i64 7, .slice none 0 0, .int .i64 0, .int .i64 0, .int .i64 0] t1).At h) (hs : (blk b2 [.int .i32 97, .int .i32 97] t2).At h) : RdG h (some ⟨b, 0, none⟩) 2 none 0 pA := by
  refine ⟨⟨rfl, fun x hx => ?_, fun _ => ⟨b, 0, rfl, fun i hi => ?_⟩⟩, ⟨rfl, fun h => by omega⟩, by decide, by decide, fun s hs => by cases hs⟩
  · simp only [pA, List.mem_cons, List.mem_singleton, List.not_mem_nil, or_false] at hx
    rcases hx with rfl | rfl <;> (simp only [I64]; decide)
  · have : i = 0 ∨ i = 1 := by omega
    rcases this with rfl | rfl
    · refine ⟨some ⟨b2, 0, none⟩, 1, 1, ⟨rfl, fun x hx => ?_, fun _ => ⟨b2, 0, rfl, fun j hj => ?_⟩⟩, blk_atN hr rfl⟩
      · have hx : x = ⟨97, 97⟩ := by simpa [pA, gI] using hx
        subst hx
        simp only [Rng.wf, I32]; decide
      · obtain rfl : j = 0 := by omega
        exact blk_atN hs rfl
    · exact ⟨none, 0, 0, RdR.nil _ _, blk_atN hr rfl⟩
end Go.V
namespace Go.V
open Go.ChangeShapes Go.WideShapes Go.RowKit

/-! ### Cells, one after the other -/
theorem at1_of_cell {w : World} {b o : Nat} {v : Value} (h : w.cell? ⟨b, o, none⟩ = some v) : at1 (hp w) b o = some v := by
  unfold World.cell? at h
  unfold at1 hp
  split at h
  · rename_i c t f hb
    rw [show w.heap[b]? = some (.cells c t f) from hb]
    simpa using h
  · cases h
theorem atN_of_at1 {h : Hp} {b o : Nat} : ∀ (vs : List Value), vs ≠ [] → (∀ i, i < vs.length → at1 h b (o + i) = vs[i]?) → atN h b o vs.length = some vs := by
  intro vs hne hv
  have h0 := hv 0 (List.length_pos_iff.2 hne)
  rw [List.getElem?_eq_getElem (List.length_pos_iff.2 hne)] at h0
  unfold at1 at h0
  split at h0
  · rename_i c t f hb
    have key : ∀ i, i < vs.length → c[o + i]? = vs[i]? := fun i hi => by
      have := hv i hi
      unfold at1 at this
      rwa [hb] at this
    have hsz : o + vs.length ≤ c.size := by
      have hl : 0 < vs.length := List.length_pos_iff.2 hne
      have := key (vs.length - 1) (by omega)
      rw [List.getElem?_eq_getElem (show vs.length - 1 < vs.length by omega)] at this
      have := (Array.getElem?_eq_some_iff.1 this).1
      omega
    simp only [atN, hb]
    rw [if_pos hsz]
    congr 1
    apply List.ext_getElem?
    intro i
    rw [List.getElem?_take]
    split
    · rename_i hi
      rw [List.getElem?_drop]
      have := key i hi
      simpa using this
    · rw [List.getElem?_eq_none (by omega)]
  · cases h0
theorem atN_of_cells {w : World} {base n : Nat} {a : Addr} {cs : List Value} (h : w.cells? base a n = some cs) (hn : 0 < n) : a.spot = none ∧ cs.length = n ∧ atN (hp w) a.block a.off n = some cs := by
  obtain ⟨_, hl, hc⟩ := World.cells?_some h
  have h0 := hc 0 hn
  have hadd : a.add 0 = a := rfl
  rw [hadd, List.getElem?_eq_getElem (by omega)] at h0
  have hs : a.spot = none := by
    unfold World.cell? at h0
    split at h0
    · split at h0
      · cases h0
      · rename_i hsp; simpa using hsp
    · cases h0
  refine ⟨hs, hl, ?_⟩
  rw [← hl]
  refine atN_of_at1 cs (fun e => by rw [e] at hl; simp at hl; omega) fun i hi => ?_
  have hi' := hc i (by omega)
  rw [List.getElem?_eq_getElem hi] at hi' ⊢
  refine at1_of_cell ?_
  rw [← hi']
  congr 1
  unfold Addr.add
  split
  · rename_i h0; subst h0; cases a; simp_all
  · rfl

/-! ### How much a reading holds -/
structure Bulky {H : Type} (B : DataW H → Nat) (BA : List (DataW H) → Nat) : Prop where
  slice : ∀ e s, B (.slice e s) = BA e + BA s + 1
  agg : ∀ ps, B (.agg ps) = BA ps + 1
  str : ∀ bs, B (.lit (.string bs)) = bs.length + 1
  one : ∀ d, 1 ≤ B d
  nil : BA [] = 0
  cons : ∀ d r, BA (d :: r) = B d + BA r
section
variable {H : Type} {B : DataW H → Nat} {BA : List (DataW H) → Nat} {enc : TypeId × Value → H} {P : Program} {w : World}
theorem Bulky.mem (hB : Bulky B BA) : ∀ (l : List (DataW H)) (d : DataW H), d ∈ l → B d ≤ BA l
  | x :: l, d, h => by
    rw [hB.cons]
    rcases List.mem_cons.1 h with rfl | h
    · omega
    · have := hB.mem l d h; omega
theorem Bulky.len (hB : Bulky B BA) : ∀ (l : List (DataW H)), l.length ≤ BA l
  | [] => Nat.zero_le _
  | x :: l => by rw [hB.cons]; have := hB.len l; have := hB.one x; simp only [List.length_cons]; omega

/-- A slice, element by element. -/
theorem rdSlice (hB : Bulky B BA) {t e : TypeId} {fuel sz : Nat} {cs : List Value} {x : DataW H × List MemPlace} (ht : P.underlying t = some (.slice e)) (hsz : P.cellsOf e = sz) (h0 : 0 < sz) (h : DataW.trod enc P w 0 (fun _ => true) true fuel t cs = some x) :
    ∃ A n c, cs = [.slice A n c] ∧ n ≤ c ∧ c ≤ B x.1 ∧ (A = none → n = 0 ∧ c = 0) ∧ (0 < n → ∃ b o, A = some ⟨b, o, none⟩) ∧
      ∀ b o, A = some ⟨b, o, none⟩ → ∀ i, i < n → ∃ cs' y fu, cs'.length = sz ∧ atN (hp w) b (o + i * sz) sz = some cs' ∧ DataW.trod enc P w 0 (fun _ => true) true fu e cs' = some y ∧ B y.1 ≤ B x.1 := by
  subst hsz
  rcases Go.Deep.open_slice ht h with ⟨rfl, rfl⟩ | ⟨a, len, cap, m, fu, D, Pl, rfl, _, hlc, hmax, hm, rfl, hx⟩
  · exact ⟨none, 0, 0, rfl, Nat.le_refl _, Nat.zero_le _, fun _ => ⟨rfl, rfl⟩, fun h => by omega, fun b o e => by cases e⟩
  · have hmc : m = cap := hm
    subst hmc
    have hle := hB.len ((List.range len).map D)
    have hle2 := hB.len ((List.range (m - len)).map fun j => D (len + j))
    have hbs := hB.slice ((List.range len).map D) ((List.range (m - len)).map fun j => D (len + j))
    simp only [List.length_map, List.length_range] at hle hle2
    have hel : ∀ i, i < len → ∃ cs' y fu', cs'.length = P.cellsOf e ∧ a.spot = none ∧ atN (hp w) a.block (a.off + i * P.cellsOf e) (P.cellsOf e) = some cs' ∧ DataW.trod enc P w 0 (fun _ => true) true fu' e cs' = some y ∧ B y.1 ≤ B (.slice ((List.range len).map D) ((List.range (m - len)).map fun j => D (len + j))) := by
      intro i hi
      have hp0 : a.spot = none := by
        obtain ⟨cs0, h1, _⟩ := hx 0 (by omega)
        rw [Nat.zero_mul] at h1
        exact (atN_of_cells h1 h0).1
      obtain ⟨cs', h1, h2⟩ := hx i (by omega)
      obtain ⟨_, g2, g3⟩ := atN_of_cells h1 h0
      refine ⟨cs', _, fu, g2, hp0, ?_, h2, ?_⟩
      · unfold Addr.add at g3
        split at g3
        · rename_i hz; rw [hz]; exact g3
        · exact g3
      · have := hB.mem ((List.range len).map D) (D i) (List.mem_map.2 ⟨i, List.mem_range.2 hi, rfl⟩)
        rw [hbs]; show B (D i) ≤ _; omega
    refine ⟨some a, len, m, rfl, hlc, ?_, fun e => (by cases e), fun hn => ?_, fun b o e i hi => ?_⟩
    · show m ≤ B (.slice _ _); rw [hbs]; omega
    · obtain ⟨_, _, _, _, hs, _⟩ := hel 0 hn
      exact ⟨a.block, a.off, by obtain ⟨ab, ao, as⟩ := a; have hs : as = none := hs; rw [hs]⟩
    · cases e
      obtain ⟨cs', y, fu', g1, _, g3, g4, g5⟩ := hel i hi
      exact ⟨cs', y, fu', g1, g3, g4, g5⟩
theorem wf32 {n : Int} (h : (Lit.int .i32 n).wf = true) : I32 n := (Lit.wf_int_iff .i32 n).1 h
theorem wf64 {n : Int} (h : (Lit.int .i64 n).wf = true) : I64 n := (Lit.wf_int_iff .i64 n).1 h

/-- One cell of a struct's. -/
theorem fld (hB : Bulky B BA) {t : TypeId} {fs : Array Field} {fuel : Nat} {cs : List Value} {x : DataW H × List MemPlace} (ht : P.underlying t = some (.struct fs)) (h : DataW.trod enc P w 0 (fun _ => true) true fuel t cs = some x) :
    cs.length = P.cellsOf t ∧ ∀ (i : Nat) (f : Field), fs[i]? = some f → ∃ y fu, DataW.trod enc P w 0 (fun _ => true) true fu f.type ((cs.drop f.offset).take (P.cellsOf f.type)) = some y ∧ B y.1 + 1 ≤ B x.1 := by
  obtain ⟨xs, n, _, rfl, hl, hxl, hf⟩ := DataW.trod_struct ht h
  refine ⟨hl, fun i f hi => ?_⟩
  have := hf i f hi
  have hlt : i < xs.length := by rw [hxl]; exact (Array.getElem?_eq_some_iff.1 hi).1
  rw [List.getElem?_eq_getElem hlt] at this
  refine ⟨_, n, this, ?_⟩
  have := hB.mem (xs.map (·.1)) xs[i].1 (List.mem_map.2 ⟨xs[i], List.getElem_mem hlt, rfl⟩)
  rw [hB.agg]
  omega
/-! ### The types that arguments are of -/
structure TyS (P : Program) (tI tR tB tS tRng tRngs tInst tInsts tStrs tProg : TypeId) : Prop where
  int : P.underlying tI = some (.int .i64)
  rune : P.underlying tR = some (.int .i32)
  bool : P.underlying tB = some .bool
  str : P.underlying tS = some .string
  rng : ∃ f0 f1, P.underlying tRng = some (.struct #[f0, f1]) ∧ f0.type = tR ∧ f0.offset = 0 ∧ f1.type = tR ∧ f1.offset = 1
  rngs : P.underlying tRngs = some (.slice tRng)
  inst : ∃ f0 f1 f2 f3 f4, P.underlying tInst = some (.struct #[f0, f1, f2, f3, f4]) ∧ (f0.type = tI ∧ f0.offset = 0) ∧ (f1.type = tRngs ∧ f1.offset = 1) ∧ (f2.type = tI ∧ f2.offset = 2) ∧ (f3.type = tI ∧ f3.offset = 3) ∧ (f4.type = tI ∧ f4.offset = 4)
  insts : P.underlying tInsts = some (.slice tInst)
  strs : P.underlying tStrs = some (.slice tS)
  prog : ∃ f0 f1 f2, P.underlying tProg = some (.struct #[f0, f1, f2]) ∧ (f0.type = tInsts ∧ f0.offset = 0) ∧ (f1.type = tStrs ∧ f1.offset = 1) ∧ (f2.type = tB ∧ f2.offset = 2)
  c1 : P.cellsOf tI = 1 ∧ P.cellsOf tR = 1 ∧ P.cellsOf tB = 1 ∧ P.cellsOf tS = 1 ∧ P.cellsOf tRngs = 1 ∧ P.cellsOf tInsts = 1 ∧ P.cellsOf tStrs = 1
  c2 : P.cellsOf tRng = 2
  c5 : P.cellsOf tInst = 5
  c3 : P.cellsOf tProg = 3
variable {tI tR tB tS tRng tRngs tInst tInsts tStrs tProg : TypeId}
theorem rdRanges (hB : Bulky B BA) (ty : TyS P tI tR tB tS tRng tRngs tInst tInsts tStrs tProg) {fuel : Nat} {cs : List Value} {x : DataW H × List MemPlace} (h : DataW.trod enc P w 0 (fun _ => true) true fuel tRngs cs = some x) :
    ∃ A n c rs, cs = [.slice A n c] ∧ n ≤ c ∧ c ≤ B x.1 ∧ RdR (hp w) A n rs := by
  obtain ⟨A, n, c, rfl, hnc, hcb, _, hA, hx⟩ := rdSlice hB ty.rngs ty.c2 (by omega) h
  rcases Nat.eq_zero_or_pos n with rfl | hn
  · exact ⟨A, 0, c, [], rfl, hnc, hcb, RdR.nil _ _⟩
  obtain ⟨b, o, rfl⟩ := hA hn
  obtain ⟨f0, f1, hr, e0, o0, e1, o1⟩ := ty.rng
  have key : ∀ i, i < n → ∃ r : Rng, r.wf ∧ atN (hp w) b (o + i * 2) 2 = some [.int .i32 r.lo, .int .i32 r.hi] := by
    intro i hi
    obtain ⟨cs', y, fu, hl, hat, ht, _⟩ := hx b o rfl i hi
    obtain ⟨_, hf⟩ := fld hB hr ht
    obtain ⟨y0, fu0, h0, _⟩ := hf 0 f0 rfl
    obtain ⟨y1, fu1, h1, _⟩ := hf 1 f1 rfl
    rw [e0, o0, ty.c1.2.1] at h0
    rw [e1, o1, ty.c1.2.1] at h1
    obtain ⟨z0, g0, _, w0⟩ := DataW.trod_int ty.rune h0
    obtain ⟨z1, g1, _, w1⟩ := DataW.trod_int ty.rune h1
    match cs', hl with
    | [a, c], _ =>
      simp at g0 g1
      subst g0; subst g1
      exact ⟨⟨z0, z1⟩, ⟨wf32 w0, wf32 w1⟩, hat⟩
  obtain ⟨f, hf⟩ := Go.Deep.choose_lt key
  refine ⟨_, n, c, (List.range n).map f, rfl, hnc, hcb, by simp, fun r hr => ?_, fun _ => ⟨b, o, rfl, fun i hi => ?_⟩⟩
  · obtain ⟨i, hi, rfl⟩ := List.mem_map.1 hr
    exact (hf i (List.mem_range.1 hi)).1
  · have e : gR ((List.range n).map f) i = f i := by simp [gR, hi]
    rw [e]; exact (hf i hi).2
theorem rdStrs (hB : Bulky B BA) (ty : TyS P tI tR tB tS tRng tRngs tInst tInsts tStrs tProg) {fuel : Nat} {cs : List Value} {x : DataW H × List MemPlace} (h : DataW.trod enc P w 0 (fun _ => true) true fuel tStrs cs = some x) :
    ∃ A n c ss, cs = [.slice A n c] ∧ n ≤ c ∧ c ≤ B x.1 ∧ RdS (hp w) A n ss ∧ ∀ s ∈ ss, s.size ≤ B x.1 := by
  obtain ⟨A, n, c, rfl, hnc, hcb, _, hA, hx⟩ := rdSlice hB ty.strs ty.c1.2.2.2.1 (by omega) h
  rcases Nat.eq_zero_or_pos n with rfl | hn
  · exact ⟨A, 0, c, [], rfl, hnc, hcb, ⟨rfl, fun h => by omega⟩, fun s hs => by cases hs⟩
  obtain ⟨b, o, rfl⟩ := hA hn
  have key : ∀ i, i < n → ∃ s : ByteArray, s.size ≤ B x.1 ∧ at1 (hp w) b (o + i * 1) = some (.string s) := by
    intro i hi
    obtain ⟨cs', y, fu, hl, hat, ht, hy⟩ := hx b o rfl i hi
    obtain ⟨s, rfl, rfl, _⟩ := DataW.trod_string ty.str ht
    have := hB.str (s.data.toList)
    refine ⟨s, ?_, at1_of_atN hat 0 rfl⟩
    have hs : s.size = s.data.toList.length := Array.length_toList.symm
    simp only at hy
    omega
  haveI : Inhabited ByteArray := ⟨⟨#[]⟩⟩
  obtain ⟨f, hf⟩ := Go.Deep.choose_lt key
  refine ⟨_, n, c, (List.range n).map f, rfl, hnc, hcb, ⟨by simp, fun _ => ⟨b, o, rfl, fun i hi => ?_⟩⟩, fun s hs => ?_⟩
  · have e : ((List.range n).map f).getD i ⟨#[]⟩ = f i := by simp [List.getD, hi]
    rw [e]; exact (hf i hi).2
  · obtain ⟨i, hi, rfl⟩ := List.mem_map.1 hs
    exact (hf i (List.mem_range.1 hi)).1
theorem rdInsts (hB : Bulky B BA) (ty : TyS P tI tR tB tS tRng tRngs tInst tInsts tStrs tProg) {fuel : Nat} {cs : List Value} {x : DataW H × List MemPlace} (hx0 : B x.1 ≤ Big) (h : DataW.trod enc P w 0 (fun _ => true) true fuel tInsts cs = some x) :
    ∃ A n c is, cs = [.slice A n c] ∧ n ≤ c ∧ c ≤ B x.1 ∧ RdP (hp w) A n is := by
  obtain ⟨A, n, c, rfl, hnc, hcb, _, hA, hx⟩ := rdSlice hB ty.insts ty.c5 (by omega) h
  rcases Nat.eq_zero_or_pos n with rfl | hn
  · exact ⟨A, 0, c, [], rfl, hnc, hcb, ⟨rfl, (fun s hs => by cases hs), fun h => by omega⟩⟩
  obtain ⟨b, o, rfl⟩ := hA hn
  obtain ⟨f0, f1, f2, f3, f4, hr, ⟨e0, o0⟩, ⟨e1, o1⟩, ⟨e2, o2⟩, ⟨e3, o3⟩, ⟨e4, o4⟩⟩ := ty.inst
  have key : ∀ i, i < n → ∃ r : Ins, (I64 r.op ∧ I64 r.x ∧ I64 r.y ∧ I64 r.n ∧ r.set.length ≤ Big) ∧ ∃ C m k, RdR (hp w) C m r.set ∧ atN (hp w) b (o + i * 5) 5 = some [.int .i64 r.op, .slice C m k, .int .i64 r.x, .int .i64 r.y, .int .i64 r.n] := by
    intro i hi
    obtain ⟨cs', y, fu, hl, hat, ht, hy⟩ := hx b o rfl i hi
    obtain ⟨_, hf⟩ := fld hB hr ht
    obtain ⟨y0, fu0, h0, _⟩ := hf 0 f0 rfl
    obtain ⟨y1, fu1, h1, hy1⟩ := hf 1 f1 rfl
    obtain ⟨y2, fu2, h2, _⟩ := hf 2 f2 rfl
    obtain ⟨y3, fu3, h3, _⟩ := hf 3 f3 rfl
    obtain ⟨y4, fu4, h4, _⟩ := hf 4 f4 rfl
    rw [e0, o0, ty.c1.1] at h0
    rw [e1, o1, ty.c1.2.2.2.2.1] at h1
    rw [e2, o2, ty.c1.1] at h2
    rw [e3, o3, ty.c1.1] at h3
    rw [e4, o4, ty.c1.1] at h4
    obtain ⟨z0, g0, _, w0⟩ := DataW.trod_int ty.int h0
    obtain ⟨C, m, k, rs, g1, hmk, hk, hrs⟩ := rdRanges hB ty h1
    obtain ⟨z2, g2, _, w2⟩ := DataW.trod_int ty.int h2
    obtain ⟨z3, g3, _, w3⟩ := DataW.trod_int ty.int h3
    obtain ⟨z4, g4, _, w4⟩ := DataW.trod_int ty.int h4
    match cs', hl with
    | [a0, a1, a2, a3, a4], _ =>
      simp at g0 g1 g2 g3 g4
      subst g0; subst g1; subst g2; subst g3; subst g4
      exact ⟨⟨z0, rs, z2, z3, z4⟩, ⟨wf64 w0, wf64 w2, wf64 w3, wf64 w4, by show rs.length ≤ _; rw [hrs.len]; omega⟩, C, m, k, hrs, hat⟩
  obtain ⟨f, hf⟩ := Go.Deep.choose_lt key
  refine ⟨_, n, c, (List.range n).map f, rfl, hnc, hcb, by simp, fun r hr => ?_, fun _ => ⟨b, o, rfl, fun i hi => ?_⟩⟩
  · obtain ⟨i, hi, rfl⟩ := List.mem_map.1 hr
    exact (hf i (List.mem_range.1 hi)).1
  · have e : gI ((List.range n).map f) i = f i := by simp [gI, hi]
    rw [e]; exact (hf i hi).2
theorem rdProg (hB : Bulky B BA) (ty : TyS P tI tR tB tS tRng tRngs tInst tInsts tStrs tProg) {fuel : Nat} {cs : List Value} {x : DataW H × List MemPlace} (hx0 : B x.1 ≤ Big) (h : DataW.trod enc P w 0 (fun _ => true) true fuel tProg cs = some x) :
    ∃ A n c C m k p, cs = [.slice A n c, .slice C m k, .bool p.raw] ∧ n ≤ c ∧ m ≤ k ∧ RdG (hp w) A n C m p := by
  obtain ⟨f0, f1, f2, hr, ⟨e0, o0⟩, ⟨e1, o1⟩, ⟨e2, o2⟩⟩ := ty.prog
  obtain ⟨hl, hf⟩ := fld hB hr h
  rw [ty.c3] at hl
  obtain ⟨y0, fu0, h0, b0⟩ := hf 0 f0 rfl
  obtain ⟨y1, fu1, h1, b1⟩ := hf 1 f1 rfl
  obtain ⟨y2, fu2, h2, _⟩ := hf 2 f2 rfl
  rw [e0, o0, ty.c1.2.2.2.2.2.1] at h0
  rw [e1, o1, ty.c1.2.2.2.2.2.2] at h1
  rw [e2, o2, ty.c1.2.2.1] at h2
  obtain ⟨A, n, c, is, g0, hnc, hc, his⟩ := rdInsts hB ty (by omega) h0
  obtain ⟨C, m, k, ss, g1, hmk, hk, hss, hsz⟩ := rdStrs hB ty h1
  obtain ⟨bb, g2, _⟩ := DataW.trod_bool ty.bool h2
  match cs, hl with
  | [a0, a1, a2], _ =>
    simp at g0 g1 g2
    subst g0; subst g1; subst g2
    exact ⟨A, n, c, C, m, k, ⟨is, ss, bb⟩, rfl, hnc, hmk, his, hss, by omega, by omega, fun s hs => by have := hsz s hs; omega⟩
end
end Go.V
namespace Go.V
open Go.ChangeShapes Go.WideShapes Go.RowKit
section
variable {H : Type} {enc : TypeId × Value → H} {P : Program} {w : World} {base : Nat} {sp : Nat → Bool} {held : Bool}
/-- An array of whole numbers. -/
theorem arrInts {t e : TypeId} {n fuel : Nat} {k : IntKind} {cs : List Value} {zs : List Int} {p : List MemPlace} (ht : P.underlying t = some (.array n e)) (he : P.underlying e = some (.int k)) (hce : P.cellsOf e = 1) (hct : P.cellsOf t = n)
    (h : DataW.trod enc P w base sp held fuel t cs = some (.agg (zs.map fun z => .lit (.int k z)), p)) : cs = zs.map fun z => Value.int k z := Lib.cells_of_tab ht he hce hct h
/-- An array of pairs of whole numbers. -/
theorem arrPairs {t e u : TypeId} {f0 f1 : Field} {n fuel : Nat} {k : IntKind} {cs : List Value} {zs : List (Int × Int)} {p : List MemPlace} (ht : P.underlying t = some (.array n e)) (he : P.underlying e = some (.struct #[f0, f1])) (e0 : f0.type = u ∧ f0.offset = 0) (e1 : f1.type = u ∧ f1.offset = 1) (hu : P.underlying u = some (.int k)) (hcu : P.cellsOf u = 1) (hce : P.cellsOf e = 2)
    (h : DataW.trod enc P w base sp held fuel t cs = some (.agg (zs.map fun z => .agg [.lit (.int k z.1), .lit (.int k z.2)]), p)) : ∀ i, i < zs.length → (cs.drop (i * 2)).take 2 = [.int k (zs.getD i (0, 0)).1, .int k (zs.getD i (0, 0)).2] := by
  intro i hi
  obtain ⟨xs, m, _, hx, hl, hxl, hf⟩ := DataW.trod_array ht h
  have hx1 : xs.map (·.1) = zs.map fun z => (DataW.agg [.lit (.int k z.1), .lit (.int k z.2)] : DataW H) := by
    have := congrArg Prod.fst hx
    simpa using this.symm
  have hlen : xs.length = zs.length := by have := congrArg List.length hx1; simpa using this
  have h1 := hf i (by omega)
  rw [hce, List.getElem?_eq_getElem (by omega)] at h1
  have h2 : (xs[i]'(by omega)).1 = .agg [.lit (.int k (zs.getD i (0, 0)).1), .lit (.int k (zs.getD i (0, 0)).2)] := by
    have := congrArg (·[i]?) hx1
    simp only [List.getElem?_map, List.getElem?_eq_getElem (show i < xs.length by omega), List.getElem?_eq_getElem hi, Option.map_some, Option.some.injEq] at this
    rw [this]; simp [List.getD, hi]
  obtain ⟨ys, m2, _, hy, hyl, hyl2, hg⟩ := DataW.trod_struct he h1
  rw [hce] at hyl
  have hy1 : ys.map (·.1) = [.lit (.int k (zs.getD i (0, 0)).1), .lit (.int k (zs.getD i (0, 0)).2)] := by
    have := congrArg Prod.fst hy
    rw [h2] at this
    simpa using this.symm
  have hyl3 : ys.length = 2 := by rw [hyl2]; rfl
  obtain ⟨a, b, rfl⟩ : ∃ a b, ys = [a, b] := by
    match ys, hyl3 with
    | [a, b], _ => exact ⟨a, b, rfl⟩
  have g0 : _ = some a := hg 0 f0 rfl
  have g1 : _ = some b := hg 1 f1 rfl
  rw [e0.1, e0.2, hcu] at g0
  rw [e1.1, e1.2, hcu] at g1
  obtain ⟨z0, c0, d0, _⟩ := DataW.trod_int hu g0
  obtain ⟨z1, c1, d1, _⟩ := DataW.trod_int hu g1
  simp only [List.map_cons, List.map_nil, List.cons.injEq, and_true] at hy1
  rw [d0, d1] at hy1
  simp only [DataW.lit.injEq, Lit.int.injEq, true_and] at hy1
  obtain ⟨x, y, hc⟩ : ∃ x y, (cs.drop (i * 2)).take 2 = [x, y] := by
    match hc : (cs.drop (i * 2)).take 2, hyl with
    | [x, y], _ => exact ⟨x, y, rfl⟩
  rw [hc] at c0 c1 ⊢
  simp at c0 c1
  rw [c0, c1, hy1.1, hy1.2]
theorem var_at {name : String} {g : Nat} {cs : Array Value} (hg : P.globalNamed name = some g) (hv : w.var? P name = some cs) (i : Nat) {v : Value} (h : cs[i]? = some v) : at1 (hp w) g i = some v :=
  at1_of_cell (by rw [World.var?_cell hg hv i]; exact h)
end
theorem utf8_first_eq : utf8FirstL = Pinned.utf8FirstZ.map Int.ofNat := by decide +kernel
theorem numbers_eq (l : List Nat) : Pinned.numbers .u8 l = (l.map Int.ofNat).map fun z => (DataW.lit (.int .u8 z) : DataW Unit) := by
  unfold Pinned.numbers
  rw [List.map_map]; rfl
/-- The three tables, out of the row's list. -/
theorem tabs_of {P : Program} {W : World} {n1 n2 n3 : String} {gA gB gF tA tB tF eA eB eF u8 i32 : Nat} {a0 a1 b0 b1 : Field} (hA : P.globalNamed n1 = some gA) (hB : P.globalNamed n2 = some gB) (hF : P.globalNamed n3 = some gF)
    (tyA : (P.globals[gA]?).map (·.type) = some tA) (tyB : (P.globals[gB]?).map (·.type) = some tB) (tyF : (P.globals[gF]?).map (·.type) = some tF)
    (uA : P.underlying tA = some (.array 16 eA)) (uB : P.underlying tB = some (.array 3 eB)) (uF : P.underlying tF = some (.array 256 eF))
    (sA : P.underlying eA = some (.struct #[a0, a1])) (sB : P.underlying eB = some (.struct #[b0, b1])) (hu8 : P.underlying u8 = some (.int .u8)) (hi32 : P.underlying i32 = some (.int .i32)) (hF8 : P.underlying eF = some (.int .u8))
    (ea0 : a0.type = u8 ∧ a0.offset = 0) (ea1 : a1.type = u8 ∧ a1.offset = 1) (eb0 : b0.type = i32 ∧ b0.offset = 0) (eb1 : b1.type = i32 ∧ b1.offset = 1)
    (c8 : P.cellsOf u8 = 1) (c32 : P.cellsOf i32 = 1) (cA : P.cellsOf eA = 2) (cB : P.cellsOf eB = 2) (cF : P.cellsOf eF = 1) (cF2 : P.cellsOf tF = 256)
    (h : laidMet P [(n1, .agg (acceptL.map fun z => .agg [.lit (.int .u8 z.1), .lit (.int .u8 z.2)])), (n2, .agg ((bandL.map fun r => (r.lo, r.hi)).map fun z => .agg [.lit (.int .i32 z.1), .lit (.int .i32 z.2)])), (n3, Pinned.utf8First)] W) : Tabs gF gA gB (hp W) := by
  obtain ⟨ps, ⟨g1, t1, cs1, f1, p1, q1, k1, m1, v1, d1, ⟨g2, t2, cs2, f2, p2, q2, k2, m2, v2, d2, ⟨g3, t3, cs3, f3, p3, q3, k3, m3, v3, d3, _, _⟩, _⟩, _⟩, _⟩ := h
  obtain rfl := Option.some.inj (hA.symm.trans k1)
  obtain rfl := Option.some.inj (hB.symm.trans k2)
  obtain rfl := Option.some.inj (hF.symm.trans k3)
  obtain rfl := Option.some.inj (tyA.symm.trans m1)
  obtain rfl := Option.some.inj (tyB.symm.trans m2)
  obtain rfl := Option.some.inj (tyF.symm.trans m3)
  have r1 := arrPairs uA sA ea0 ea1 hu8 c8 cA d1
  have r2 := arrPairs uB sB eb0 eb1 hi32 c32 cB d2
  have r3 : cs3.toList = (Pinned.utf8FirstZ.map Int.ofNat).map fun z => Value.int .u8 z := by
    have e : Pinned.utf8First = .agg ((Pinned.utf8FirstZ.map Int.ofNat).map fun z => .lit (.int .u8 z)) := by
      unfold Pinned.utf8First
      rw [numbers_eq]
    rw [e] at d3
    exact arrInts uF hF8 cF cF2 d3
  have pair : ∀ {cs : Array Value} {g i : Nat} {name : String} {x y : Value}, P.globalNamed name = some g → W.var? P name = some cs → (cs.toList.drop (i * 2)).take 2 = [x, y] → atN (hp W) g (i * 2) 2 = some [x, y] := by
    intro cs g i name x y hg hv hc
    have hx : cs[i * 2 + 0]? = some x := by
      have := congrArg (·[0]?) hc
      simpa using this
    have hy : cs[i * 2 + 1]? = some y := by
      have := congrArg (·[1]?) hc
      simpa using this
    refine atN_of_at1 [x, y] (by simp) fun j hj => ?_
    have : j = 0 ∨ j = 1 := by simp at hj; omega
    rcases this with rfl | rfl
    · exact var_at hg hv _ hx
    · exact var_at hg hv _ hy
  refine ⟨fun i hi => ?_, fun i hi => ?_, ⟨rfl, fun r hr => ?_, fun _ => ⟨gB, 0, rfl, fun i hi => ?_⟩⟩⟩
  · refine var_at hF v3 i ?_
    have h1 : cs3[i]? = cs3.toList[i]? := by simp
    rw [h1, r3, utf8_first_eq]
    have hl : Pinned.utf8FirstZ.length = 256 := by decide +kernel
    simp [List.getD, show i < Pinned.utf8FirstZ.length by omega]
  · exact pair hA v1 (r1 i hi)
  · simp only [bandL, List.mem_cons, List.not_mem_nil, or_false] at hr
    rcases hr with rfl | rfl | rfl <;> (simp only [Rng.wf, I32]; decide)
  · have h1 := pair hB v2 (r2 i (by rw [List.length_map]; exact hi))
    have e : ((bandL.map fun r => (r.lo, r.hi)).getD i (0, 0)) = ((gR bandL i).lo, (gR bandL i).hi) := by
      have : i = 0 ∨ i = 1 ∨ i = 2 := by omega
      rcases this with rfl | rfl | rfl <;> rfl
    rw [e] at h1
    rw [Nat.zero_add]
    exact h1
end Go.V
namespace Go.V
open Go.ChangeShapes Go.WideShapes Go.RowKit
section
variable {H : Type} {enc : TypeId × Value → H} {P : Program}
/-- What was there before reads as it did. -/
theorem same_below {W W' : World} (hb : Ext W W') {p : MemPlace} (hp : p.block < W.heap.size) : W.sameAt W' p := by
  cases p with
  | cell b o => exact hb.cell (p := ⟨b, o, none⟩) hp
  | map b => exact hb.block b hp
theorem all_stay {W W' : World} {sp : Nat → Bool} (hl : laidOutB P = true) (hm : mapsRowed P = true) (hz : ∀ t e, t < P.types.size → P.underlying t = some (.slice e) → 0 < P.cellsOf e) (hb : Ext W W') :
    ∀ {ts : List TypeId} {vs : List Value} {ds : List (DataW H)} {ps : List MemPlace}, (∀ t ∈ ts, t < P.types.size) → (∀ p ∈ ps, sp p.block = true) → DataW.TrodAll enc P W 0 (fun _ => true) true ts vs ds ps → DataW.TrodAll enc P W' 0 sp true ts vs ds ps
  | [], [], [], _, _, _, h => h
  | t :: ts, v :: vs, d :: ds, ps, ht, hs, ⟨p, q, ⟨fu, h1⟩, h2, e⟩ => by
    subst e
    refine ⟨p, q, ⟨fu, DataW.trod_stays (kids_rows hl hm) (fun {t e} => hz t e) (fun h => by cases h) (ht t (.head _)) h1 (fun x hx => same_below hb (DataW.trod_lt _ _ _ _ h1 x hx)) (fun x hx => hs x (List.mem_append_left _ hx))⟩, ?_, rfl⟩
    exact all_stay hl hm hz hb (fun t h => ht t (.tail _ h)) (fun x hx => hs x (List.mem_append_right _ hx)) h2
/-- A law's end: it answers a Bool, and what was there is as it was. -/
theorem law_post {f : Func} {s : ChangeSpec} {apart fresh handsOn again r : Bool} {W W' : World} {args : Array Value} {ds gs : List (DataW H)} {before : List MemPlace} {tB : TypeId}
    (hl : laidOutB P = true) (hm : mapsRowed P = true) (hz : ∀ t e, t < P.types.size → P.underlying t = some (.slice e) → 0 < P.cellsOf e) (hts : ∀ t ∈ f.params.toList, t < P.types.size) (hB : P.underlying tB = some .bool) (hr : f.resultTypes = #[tB]) (hv : s.vars = [])
    (hW : DataW.Whole enc P f.params.toList s.vars apart W args.toList ds gs before) (hfn : s.fn H (ds ++ gs) = { results := [.lit (.bool r)], args := ds }) (hb : Ext W W') : s.post enc P f apart fresh handsOn again W args (.bool r) W' := by
  have hlt : ∀ p ∈ before, p.block < W.heap.size := fun p hp => hW.lt p hp
  obtain ⟨pa, pv, hA, hV, e, hfz, hnd⟩ := hW
  have hW : DataW.Whole enc P f.params.toList s.vars apart W args.toList ds gs before := ⟨pa, pv, hA, hV, e, hfz, hnd⟩
  rw [hv] at hV
  have hV0 : gs = [] ∧ pv = [] := by
    cases gs with
    | nil => exact ⟨rfl, hV⟩
    | cons g gs => exact hV.elim
  obtain ⟨rfl, rfl⟩ := hV0
  rw [List.append_nil] at e
  subst e
  have hres : ∀ b sp hd, DataW.TrodAll enc P W' b sp hd f.resultTypes.toList ((Value.bool r).resultList f.resultTypes.size) (s.fn H (ds ++ [])).results [] := fun b sp hd => by
    rw [hr, hfn]
    exact trodAll_mk1 (shut_bool hB r)
  have hargs : ∀ sp : Nat → Bool, (∀ p ∈ before, sp p.block = true) → DataW.TrodAll enc P W' 0 sp true f.params.toList args.toList (s.fn H (ds ++ [])).args before := fun sp hsp => by
    rw [hfn]
    exact all_stay hl hm hz hb hts hsp hA
  have hvars : ∀ sp : Nat → Bool, DataW.TrodVars enc P W' sp s.vars (s.fn H (ds ++ [])).vars [] := fun sp => by
    rw [hv, hfn]; exact rfl
  have hold : ∀ p ∈ before, (fun b => decide (b < W.heap.size)) p.block = true := fun p hp => decide_eq_true (hlt p hp)
  refine ⟨ds, [], before, [], before, [], hW, hres _ _ _, hargs _ hold, hvars _, hb.frame _, fun _ => ⟨?_, ?_⟩⟩
  · intro j t x hj hx
    exact ok_one (v := .bool r) hr rfl (okWide_bool_mk hB r) j t x hj hx
  · refine ⟨_, _, before, ⟨[] ++ before, [], trodAll_append (hargs _ fun _ _ => rfl) (hres _ _ _), hvars _, by simp, ?_, hnd⟩, fun p hp _ => hp⟩
    intro b o hp
    have := hb.frozen (p := ⟨b, o, none⟩) (hlt _ hp)
    rw [this]
    exact hfz b o hp
end
end Go.V
