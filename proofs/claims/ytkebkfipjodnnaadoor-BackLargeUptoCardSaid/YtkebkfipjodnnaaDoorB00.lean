/-
  Lemmas of this claim's own, part 1: contracts of the functions that the statement reaches, and the plain facts behind them.
-/
import Derived.Deep.Quiet
import Derived.OrdersHeld
import Derived.StillTail
import Derived.Below
import Derived.Laws.Strings
import Derived.Lib.ConvBytes
set_option linter.unusedVariables false
set_option linter.unusedSimpArgs false
namespace Go.V
open Go.RowKit

/-! ### Heaps as partial functions, chunks, classes of worlds -/
abbrev Hp := Nat → Option Obj
def hp (w : World) : Hp := fun k => w.heap[k]?
def Sub (h h' : Hp) : Prop := ∀ k o, h k = some o → h' k = some o
theorem Sub.refl (h : Hp) : Sub h h := fun _ _ e => e
theorem Sub.trans {a b c : Hp} (h : Sub a b) (k : Sub b c) : Sub a c := fun i o e => k i o (h i o e)

/-- A block that is owned: its number (or none), and what is known of its object. -/
structure Chunk where
  blk : Option Nat
  ok : Obj → Prop

def Chunk.At (c : Chunk) (h : Hp) : Prop := ∀ b, c.blk = some b → ∃ o, h b = some o ∧ c.ok o

/-- A block of cells that is known whole. -/
def blk (b : Nat) (cs : List Value) (e : TypeId) : Chunk := ⟨some b, fun o => o = .cells cs.toArray e (0, 0)⟩

structure WS (F : Hp) (M : List Chunk) (w0 w : World) : Prop where
  sub : Sub F (hp w)
  at_ : ∀ c ∈ M, c.At (hp w)
  off : ∀ c ∈ M, ∀ b, c.blk = some b → F b = none
  apart : M.Pairwise fun c d => ∀ b, c.blk = some b → d.blk ≠ some b
  os : w.os = w0.os
  tape : w.tape = w0.tape
  output : w.output = w0.output
  size : w0.heap.size ≤ w.heap.size

abbrev Ext (w w' : World) : Prop := Below w.heap.size w w'

theorem hp_lt {w : World} {k : Nat} {o : Obj} (h : hp w k = some o) : k < w.heap.size := (Array.getElem?_eq_some_iff.1 h).1
theorem hp_ge {w : World} {k : Nat} (h : w.heap.size ≤ k) : hp w k = none := Array.getElem?_eq_none h

theorem Ext.sub {w w' : World} (h : Ext w w') : Sub (hp w) (hp w') := fun k o e => by
  have := h.block k (hp_lt e)
  unfold hp at *
  rw [this]; exact e
theorem ext_of {w w' : World} (os : w'.os = w.os) (tape : w'.tape = w.tape) (output : w'.output = w.output) (sub : Sub (hp w) (hp w')) : Ext w w' := by
  refine ⟨os, tape, output, ?_, fun k hk => ?_⟩
  · rcases Nat.lt_or_ge w'.heap.size w.heap.size with h | h
    · have h1 := sub w'.heap.size _ (Array.getElem?_eq_getElem h)
      have := hp_lt h1
      omega
    · exact h
  · have := sub k _ (Array.getElem?_eq_getElem hk)
    unfold hp at this
    rw [this, Array.getElem?_eq_getElem hk]
theorem Ext.refl (w : World) : Ext w w := Below.refl _ _
theorem Ext.trans {a b c : World} (h : Ext a b) (k : Ext b c) : Ext a c :=
  ext_of (k.os.trans h.os) (k.tape.trans h.tape) (k.output.trans h.output) (h.sub.trans k.sub)
theorem Ext.drew (w : World) : Ext w w.drew := (Below.refl _ _).drew

theorem WS.toExt {F : Hp} {M : List Chunk} {w0 w : World} (h : WS F M w0 w) (hF : Sub (hp w0) F) : Ext w0 w :=
  ext_of h.os h.tape h.output (hF.trans h.sub)

theorem WS.ext {F : Hp} {M : List Chunk} {w0 w w' : World} (h : WS F M w0 w) (e : Ext w w') : WS F M w0 w' where
  sub := h.sub.trans e.sub
  at_ c hc b hb := let ⟨o, h1, h2⟩ := h.at_ c hc b hb; ⟨o, e.sub b o h1, h2⟩
  off := h.off
  apart := h.apart
  os := e.os.trans h.os
  tape := e.tape.trans h.tape
  output := e.output.trans h.output
  size := Nat.le_trans h.size e.size

theorem WS.start (w : World) : WS (hp w) [] w w where
  sub := Sub.refl _
  at_ c hc := by cases hc
  off c hc := by cases hc
  apart := .nil
  os := rfl
  tape := rfl
  output := rfl
  size := Nat.le_refl _

/-- Fewer chunks. -/
theorem WS.less {F : Hp} {M M' : List Chunk} {w0 w : World} (h : WS F M w0 w) (hs : M'.Sublist M) : WS F M' w0 w :=
  ⟨h.sub, fun c hc => h.at_ c (hs.subset hc), fun c hc => h.off c (hs.subset hc), h.apart.sublist hs, h.os, h.tape, h.output, h.size⟩

/-- A chunk of which less is said. -/
theorem WS.weak {F : Hp} {c c' : Chunk} {M : List Chunk} {w0 w : World} (h : WS F (c :: M) w0 w) (hb : c'.blk = c.blk ∨ c'.blk = none) (ho : ∀ o, c.ok o → c'.ok o) : WS F (c' :: M) w0 w where
  sub := h.sub
  at_ d hd := by
    rcases List.mem_cons.1 hd with rfl | hd
    · intro b hb'
      rcases hb with e | e
      · obtain ⟨o, h1, h2⟩ := h.at_ c (.head _) b (e ▸ hb')
        exact ⟨o, h1, ho o h2⟩
      · rw [e] at hb'; cases hb'
    · exact h.at_ d (.tail _ hd)
  off d hd := by
    rcases List.mem_cons.1 hd with rfl | hd
    · intro b hb'
      rcases hb with e | e
      · exact h.off c (.head _) b (e ▸ hb')
      · rw [e] at hb'; cases hb'
    · exact h.off d (.tail _ hd)
  apart := by
    obtain ⟨h1, h2⟩ := List.pairwise_cons.1 h.apart
    refine List.pairwise_cons.2 ⟨fun d hd b hb' => ?_, h2⟩
    rcases hb with e | e
    · exact h1 d hd b (e ▸ hb')
    · rw [e] at hb'; cases hb'
  os := h.os
  tape := h.tape
  output := h.output
  size := h.size

/-- The chunks in another order. -/
theorem WS.perm {F : Hp} {M M' : List Chunk} {w0 w : World} (h : WS F M w0 w) (hp : M.Perm M') : WS F M' w0 w :=
  ⟨h.sub, fun c hc => h.at_ c (hp.symm.subset hc), fun c hc => h.off c (hp.symm.subset hc),
    (hp.pairwise_iff (fun hxy b hb hc => hxy b hc hb)).1 h.apart, h.os, h.tape, h.output, h.size⟩

/-- A new block. -/
theorem WS.alloc {F : Hp} {M : List Chunk} {w0 w : World} (h : WS F M w0 w) (o : Obj) : WS F (⟨some w.heap.size, fun x => x = o⟩ :: M) w0 (w.alloc o) := by
  have e : Ext w (w.alloc o) := Below.alloc (Below.refl _ _) (Nat.le_refl _) o
  have h' := h.ext e
  refine ⟨h'.sub, fun c hc => ?_, fun c hc => ?_, List.pairwise_cons.2 ⟨fun d hd b hb hd' => ?_, h'.apart⟩, h'.os, h'.tape, h'.output, h'.size⟩
  · rcases List.mem_cons.1 hc with rfl | hc
    · intro b hb
      cases hb
      exact ⟨o, by show (w.heap.push o)[w.heap.size]? = _; simp, rfl⟩
    · exact h'.at_ c hc
  · rcases List.mem_cons.1 hc with rfl | hc
    · intro b hb
      cases hb
      cases hF : F w.heap.size with
      | none => rfl
      | some x => exact absurd (hp_lt (h.sub _ _ hF)) (by omega)
    · exact h'.off c hc
  · cases hb
    obtain ⟨o', h1, _⟩ := h.at_ d hd _ hd'
    exact absurd (hp_lt h1) (by omega)

/-- What has been made since, and is read from now on: it joins what stays. -/
def from_ (B : Nat) (h : Hp) : Hp := fun k => if k < B then none else h k
theorem from_sub (B : Nat) (h : Hp) : Sub (from_ B h) h := fun k o e => by
  unfold from_ at e; split at e
  · cases e
  · exact e
theorem from_mono {B : Nat} {h h' : Hp} (s : Sub h h') : Sub (from_ B h) (from_ B h') := fun k o e => by
  unfold from_ at *; split at e
  · cases e
  · rename_i hk; rw [if_neg hk]; exact s _ _ e

/-- `h'` lies in `w'`, in blocks that are not in `w`. -/
structure Fresh (w w' : World) (h' : Hp) : Prop where
  sub : Sub h' (hp w')
  new : ∀ k o, h' k = some o → w.heap.size ≤ k

def join (F h : Hp) : Hp := fun k => match F k with | some o => some o | none => h k

theorem WS.fresh {F : Hp} {M : List Chunk} {w0 w w' : World} {h' : Hp} (h : WS F M w0 w) (e : Ext w w') (hf : Fresh w w' h') :
    WS (join F h') M w0 w' ∧ Sub F (join F h') ∧ Sub h' (from_ w0.heap.size (join F h')) := by
  have k := h.ext e
  have hFw : ∀ i o, h' i = some o → F i = none := fun i o hi => by
    cases hF : F i with
    | none => rfl
    | some x => exact absurd (hp_lt (h.sub _ _ hF)) (by have := hf.new i o hi; omega)
  refine ⟨⟨fun i o hi => ?_, k.at_, fun c hc b hb => ?_, k.apart, k.os, k.tape, k.output, k.size⟩, fun i o hi => by simp [join, hi], fun i o hi => ?_⟩
  · unfold join at hi
    split at hi
    · rename_i o' ho; cases hi; exact k.sub _ _ ho
    · exact hf.sub _ _ hi
  · simp only [join, k.off c hc b hb]
    cases hh : h' b with
    | none => rfl
    | some x =>
      obtain ⟨o, h1, _⟩ := h.at_ c hc b hb
      exact absurd (hp_lt h1) (by have := hf.new b x hh; omega)
  · have := hf.new i o hi
    have := h.size
    simp only [from_, join, hFw i o hi, hi]
    rw [if_neg (by omega)]

/-! ### Frames -/
abbrev Env := List (Nat × Value)
def look : Env → Nat → Option Value
  | [], _ => none
  | (j, v) :: r, i => match Nat.beq j i with | true => some v | false => look r i

def evl (ρ : Env) : Operand → Option Value
  | .tmp t => look ρ t
  | .const v => some v
  | .global g => some (.pointer (some ⟨g, 0, none⟩))
  | .func f => some (.func (.func f) #[] #[])

def evls (ρ : Env) : List Operand → Option (List Value)
  | [] => some []
  | x :: r => match evl ρ x, evls ρ r with
    | some v, some vs => some (v :: vs)
    | _, _ => none
def evlP (ρ : Env) : List (Nat × Operand) → Option (List (Nat × Value))
  | [] => some []
  | (i, x) :: r => match evl ρ x, evlP ρ r with
    | some v, some vs => some ((i, v) :: vs)
    | _, _ => none

structure Fit (n : Nat) (ρ : Env) (a : Act) : Prop where
  defers : a.defers = []
  size : a.tmps.size = n
  get : ∀ i v, look ρ i = some v → a.tmps[i]? = some v

theorem Fit.eval {n : Nat} {ρ : Env} {a : Act} {x : Operand} {v : Value} (h : Fit n ρ a) (he : evl ρ x = some v) : a.eval x = v := by
  cases x with
  | tmp t => simp only [evl] at he; simp [Act.eval, h.get t v he]
  | const u => simpa [evl, Act.eval] using he
  | global g => simpa [evl, Act.eval] using he
  | func f => simpa [evl, Act.eval] using he

theorem Fit.put {n : Nat} {ρ : Env} {a : Act} {d : Nat} {v : Value} (h : Fit n ρ a) (hd : Nat.blt d n = true) : Fit n ((d, v) :: ρ) (a.put (some d) v) := by
  have hd' : d < n := by simpa [Nat.blt_eq] using hd
  refine ⟨h.defers, by simp [Act.put, h.size], fun i u hi => ?_⟩
  simp only [look] at hi
  split at hi
  · rename_i hb
    obtain rfl := Nat.eq_of_beq_eq_true hb
    cases hi
    simp [Act.put, h.size, hd']
  · rename_i hb
    have hne : d ≠ i := fun e => by rw [e, Nat.beq_refl] at hb; cases hb
    simp only [Act.put, Array.getElem?_setIfInBounds_ne hne]
    exact h.get i u hi

/-- All that a smaller frame tells is told. -/
def Env.le (ρ ρ' : Env) : Prop := ∀ i v, look ρ i = some v → look ρ' i = some v
theorem Fit.less {n : Nat} {ρ ρ' : Env} {a : Act} (h : Fit n ρ' a) (hl : Env.le ρ ρ') : Fit n ρ a := ⟨h.defers, h.size, fun i v e => h.get i v (hl i v e)⟩
theorem Env.le_nil (ρ : Env) : Env.le [] ρ := fun _ _ e => by cases e
theorem Env.le_cons {ρ ρ' : Env} {d : Nat} {v : Value} (hv : look ρ' d = some v) (h : Env.le ρ ρ') : Env.le ((d, v) :: ρ) ρ' := fun i u e => by
  simp only [look] at e
  split at e
  · rename_i hb; obtain rfl := Nat.eq_of_beq_eq_true hb; cases e; exact hv
  · exact h i u e

def env0 : Nat → List Value → Env
  | _, [] => []
  | i, v :: r => (i, v) :: env0 (i + 1) r

theorem look_env0 : ∀ (l : List Value) (k i : Nat) (v : Value), look (env0 k l) i = some v → k ≤ i ∧ l[i - k]? = some v
  | [], _, _, _, h => by cases h
  | x :: r, k, i, v, h => by
    simp only [env0, look] at h
    split at h
    · rename_i hb
      obtain rfl := Nat.eq_of_beq_eq_true hb
      cases h
      simp
    · obtain ⟨h1, h2⟩ := look_env0 r (k + 1) i v h
      refine ⟨by omega, ?_⟩
      rw [show i - k = (i - (k + 1)) + 1 by omega]
      simpa using h2

theorem Fit.start (l : List Value) (n : Nat) (hn : l.length ≤ n) : Fit n (env0 0 l) { tmps := l.toArray ++ Array.replicate (n - l.toArray.size) undef, defers := [] } := by
  refine ⟨rfl, by simp; omega, fun i v h => ?_⟩
  obtain ⟨_, h2⟩ := look_env0 l 0 i v h
  have hi : i < l.length := by
    rcases Nat.lt_or_ge i l.length with h' | h'
    · exact h'
    · simp [List.getElem?_eq_none h'] at h2
  simp only [Array.getElem?_append, List.size_toArray, if_pos hi]
  simpa using h2

end Go.V
namespace Go.V
open Go.RowKit

section
variable {P : Program} {n : Nat} {ops : Array Oper} {ρ : Env} {F : Hp} {M : List Chunk} {w0 : World} {Q : Exit → Act → World → Prop}

/-! ### What is asked of code, of a list of operations, of an end -/
def TC (P : Program) (n : Nat) (c : Code) (ρ : Env) (F : Hp) (M : List Chunk) (w0 : World) (Q : Exit → Act → World → Prop) : Prop := ∀ a w, Fit n ρ a → WS F M w0 w → c.wp P Q a w
def TL (P : Program) (n : Nat) (ops : Array Oper) (l : List Oper) (ρ : Env) (F : Hp) (M : List Chunk) (w0 : World) (Q : Exit → Act → World → Prop) : Prop := ∀ a w, Fit n ρ a → WS F M w0 w → wpList P ops Q l a w
def TX (n : Nat) (e : Exit) (ρ : Env) (F : Hp) (M : List Chunk) (w0 : World) (Q : Exit → Act → World → Prop) : Prop := ∀ a w, Fit n ρ a → WS F M w0 w → Q e a w

/-! ### Code -/
theorem cSeq {x y : Code} (h : TC P n x ρ F M w0 (Exit.then (y.wp P Q) Q)) : TC P n (.seq x y) ρ F M w0 Q := fun a w f s => wp_seq (h a w f s)
theorem cSkip (h : TX n .normal ρ F M w0 Q) : TC P n .skip ρ F M w0 Q := fun a w f s => wp_skip (h a w f s)
theorem cRet (h : TX n .ret ρ F M w0 Q) : TC P n .ret ρ F M w0 Q := fun a w f s => wp_ret (h a w f s)
theorem cExit {k : Nat} (h : TX n (.exit k) ρ F M w0 Q) : TC P n (.exit k) ρ F M w0 Q := fun a w f s => wp_exit (h a w f s)
theorem cBlock {k : Nat} {c : Code} (h : TC P n c ρ F M w0 (Exit.inBlock k Q)) : TC P n (.block k c) ρ F M w0 Q := fun a w f s => wp_block (h a w f s)
theorem cReg {id : Nat} {l : List Oper} (h : TL P n l.toArray l ρ F M w0 Q) : TC P n (.region id l.toArray false) ρ F M w0 Q := fun a w f s => wp_region_lit (h a w f s)
theorem cIf {c : Operand} {x y : Code} {t : Bool} (hc : evl ρ c = some (.bool t)) (ht : t = true → TC P n x ρ F M w0 Q) (hf : t = false → TC P n y ρ F M w0 Q) : TC P n (.cond c x y) ρ F M w0 Q :=
  fun a w f s => wp_cond_split (f.eval hc) (fun e => ht e a w f s) (fun e => hf e a w f s)
theorem cIfT {c : Operand} {x y : Code} (hc : evl ρ c = some (.bool true)) (ht : TC P n x ρ F M w0 Q) : TC P n (.cond c x y) ρ F M w0 Q := cIf hc (fun _ => ht) (fun e => by cases e)
theorem cIfF {c : Operand} {x y : Code} (hc : evl ρ c = some (.bool false)) (hf : TC P n y ρ F M w0 Q) : TC P n (.cond c x y) ρ F M w0 Q := cIf hc (fun e => by cases e) (fun _ => hf)

/-- A smaller frame, another order of the chunks, fewer of them. -/
theorem cLess {c : Code} (ρ' : Env) {M' : List Chunk} (hl : Env.le ρ' ρ) (hm : ∀ w, WS F M w0 w → WS F M' w0 w) (h : TC P n c ρ' F M' w0 Q) : TC P n c ρ F M w0 Q := fun a w f s => h a w (f.less hl) (hm w s)
theorem cEnv {c : Code} (ρ' : Env) (hl : Env.le ρ' ρ) (h : TC P n c ρ' F M w0 Q) : TC P n c ρ F M w0 Q := fun a w f s => h a w (f.less hl) s
theorem cMem {c : Code} (M' : List Chunk) (hm : ∀ w, WS F M w0 w → WS F M' w0 w) (h : TC P n c ρ F M' w0 Q) : TC P n c ρ F M w0 Q := fun a w f s => h a w f (hm w s)

/-! ### Ends -/
theorem xThen {y : Code} (h : TC P n y ρ F M w0 Q) : TX n .normal ρ F M w0 (Exit.then (y.wp P Q) Q) := fun a w f s => h a w f s
theorem xThenK {K : Act → World → Prop} (h : ∀ a w, Fit n ρ a → WS F M w0 w → K a w) : TX n .normal ρ F M w0 (Exit.then K Q) := fun a w f s => h a w f s
theorem xBlock {k : Nat} (h : TX n .normal ρ F M w0 Q) : TX n .normal ρ F M w0 (Exit.inBlock k Q) := fun a w f s => h a w f s
theorem xExitThen {k : Nat} {K : Act → World → Prop} (h : TX n (.exit k) ρ F M w0 Q) : TX n (.exit k) ρ F M w0 (Exit.then K Q) := fun a w f s => h a w f s
theorem xExitBlock {k : Nat} (h : TX n .normal ρ F M w0 Q) : TX n (.exit k) ρ F M w0 (Exit.inBlock k Q) := fun a w f s => by simp only [Exit.inBlock, if_true]; exact h a w f s
theorem xExitOther {k j : Nat} (hj : Nat.beq k j = false) (h : TX n (.exit k) ρ F M w0 Q) : TX n (.exit k) ρ F M w0 (Exit.inBlock j Q) := fun a w f s => by
  simp only [Exit.inBlock]; rw [if_neg (fun e => by rw [e, Nat.beq_refl] at hj; cases hj)]; exact h a w f s
theorem xRetThen {K : Act → World → Prop} (h : TX n .ret ρ F M w0 Q) : TX n .ret ρ F M w0 (Exit.then K Q) := fun a w f s => h a w f s
theorem xRetBlock {k : Nat} (h : TX n .ret ρ F M w0 Q) : TX n .ret ρ F M w0 (Exit.inBlock k Q) := fun a w f s => h a w f s
theorem xEnv {e : Exit} (ρ' : Env) (hl : Env.le ρ' ρ) (h : TX n e ρ' F M w0 Q) : TX n e ρ F M w0 Q := fun a w f s => h a w (f.less hl) s
theorem xMem {e : Exit} (M' : List Chunk) (hm : ∀ w, WS F M w0 w → WS F M' w0 w) (h : TX n e ρ F M' w0 Q) : TX n e ρ F M w0 Q := fun a w f s => h a w f (hm w s)

/-! ### A function's body: the post never speaks of a panic -/
def bp (P : Program) (fn : Func) (R : Value → World → Prop) : Exit → Act → World → Prop
  | .normal, a, w | .ret, a, w => a.defers = [] ∧ ∃ v, (results fn a.tmps).run P w = .ok v w ∧ R v w
  | _, _, _ => False

theorem bp_post {fn : Func} {R : Value → World → Prop} {R' : Ending → World → Prop} (hR : ∀ v w, R v w → R' (.returned v) w) : ∀ e a w, bp P fn R e a w → bodyPost P fn R' e a w := by
  intro e a w h
  cases e <;> first | exact ⟨h.1, h.2.imp fun v hv => ⟨hv.1, hR v w hv.2⟩⟩ | exact h.elim

/-- A call, by its body. -/
theorem enter {f : FuncId} {fn : Func} {c : Code} {args : List Value} {w : World} {R : Value → World → Prop} (n : Nat) (hf : P.funcs[f]? = some fn) (hn : fn.ntmps = n) (hb : fn.body = some c) (hl : Nat.ble args.length n = true)
    {F : Hp} {M : List Chunk} (hs : WS F M w w) (h : TC P n c (env0 0 args) F M w (bp P fn R)) : Calls P f args.toArray w (fun e w' => ∃ v, e = .returned v ∧ R v w') := by
  subst hn
  refine calls_of_wp hf hb ?_
  exact wp_mono (h _ w (Fit.start args fn.ntmps (by simpa [Nat.ble_eq] using hl)) hs) (bp_post fun v w' hv => ⟨v, rfl, hv⟩)

theorem enter' {f : FuncId} {fn : Func} {c : Code} {args : List Value} {w : World} {v : Value} (n : Nat) (hf : P.funcs[f]? = some fn) (hn : fn.ntmps = n) (hb : fn.body = some c) (hl : Nat.ble args.length n = true)
    (h : TC P n c (env0 0 args) (hp w) [] w (bp P fn fun u w' => u = v ∧ Ext w w')) : Calls P f args.toArray w (fun e w' => e = .returned v ∧ Ext w w') :=
  (enter n hf hn hb hl (WS.start w) h).mono fun _ _ ⟨_, he, hv, hx⟩ => ⟨by rw [he, hv], hx⟩

theorem xRet1 {fn : Func} {R : Value → World → Prop} {t : Tmp} (v : Value) (hr : fn.results = #[.tmp t]) (hv : look ρ t = some v) (h : ∀ w, WS F M w0 w → R v w) : TX n .ret ρ F M w0 (bp P fn R) := fun a w f s =>
  ⟨f.defers, v, by rw [results_tmp hr]; simp [f.get t v hv], h w s⟩
theorem xRet2 {fn : Func} {R : Value → World → Prop} {t u : Tmp} (v x : Value) (hr : fn.results = #[.tmp t, .tmp u]) (hv : look ρ t = some v) (hx : look ρ u = some x) (h : ∀ w, WS F M w0 w → R (.tuple #[v, x]) w) : TX n .ret ρ F M w0 (bp P fn R) := fun a w f s =>
  ⟨f.defers, .tuple #[v, x], by rw [results_tmp2 hr]; simp [f.get t v hv, f.get u x hx], h w s⟩
theorem xRet3 {fn : Func} {R : Value → World → Prop} {t u s : Tmp} (v x y : Value) (hr : fn.results = #[.tmp t, .tmp u, .tmp s]) (hv : look ρ t = some v) (hx : look ρ u = some x) (hy : look ρ s = some y) (h : ∀ w, WS F M w0 w → R (.tuple #[v, x, y]) w) : TX n .ret ρ F M w0 (bp P fn R) := fun a w f s' =>
  ⟨f.defers, .tuple #[v, x, y], by simp [results, hr, f.get t v hv, f.get u x hx, f.get s y hy], h w s'⟩
theorem xRet0 {fn : Func} {R : Value → World → Prop} (hr : fn.results = #[]) (h : ∀ w, WS F M w0 w → R (.tuple #[]) w) : TX n .ret ρ F M w0 (bp P fn R) := fun _ w f s =>
  ⟨f.defers, .tuple #[], by rw [results_none hr], h w s⟩
theorem xEnd0 {fn : Func} {R : Value → World → Prop} (hr : fn.results = #[]) (h : ∀ w, WS F M w0 w → R (.tuple #[]) w) : TX n .normal ρ F M w0 (bp P fn R) := fun _ w f s =>
  ⟨f.defers, .tuple #[], by rw [results_none hr], h w s⟩

/-! ### Loops; a place where ways meet -/
/-- `I`: the frame, what stays, what is owned, what holds, at the state x; `μ` goes down. -/
structure LI (ι : Type) where
  env : ι → Env
  stay : ι → Hp
  own : ι → List Chunk
  ok : ι → Prop
  le : ι → Nat

def LI.at_ {ι : Type} (I : LI ι) (n : Nat) (w0 : World) (x : ι) (a : Act) (w : World) : Prop := I.ok x ∧ Fit n (I.env x) a ∧ WS (I.stay x) (I.own x) w0 w

theorem cLoop {ι : Type} (I : LI ι) {c : Code} (h0 : ∀ a w, Fit n ρ a → WS F M w0 w → ∃ x, I.at_ n w0 x a w)
    (hr : ∀ x, I.ok x → TC P n c (I.env x) (I.stay x) (I.own x) w0 (Exit.then (fun a w => ∃ y, I.le y < I.le x ∧ I.at_ n w0 y a w) Q)) : TC P n (.loop c) ρ F M w0 Q := by
  intro a w f s
  -- the measure is that of the least state that fits
  classical
  have key : ∀ m x a w, I.le x = m → I.at_ n w0 x a w → ∀ (b : Frame) (k : List Item) (cs : List Frame),
      ∃ e a' w', Q e a' w' ∧ Arrives P (lone (b.at a (.code c :: .inLoop c :: k)) cs w) b k cs e a' w' := by
    intro m
    induction m using Nat.strongRecOn with
    | _ m ih =>
      intro x a w hm ⟨hok, hf, hs⟩ b k cs
      obtain ⟨e, a₁, w₁, hq, harr⟩ := hr x hok a w hf hs b (.inLoop c :: k) cs
      cases e with
      | normal =>
        obtain ⟨y, hlt, hy⟩ := hq
        obtain ⟨e₂, a₂, w₂, hq₂, harr₂⟩ := ih (I.le y) (hm ▸ hlt) y a₁ w₁ rfl hy b k cs
        exact ⟨e₂, a₂, w₂, hq₂, .of_steps (Steps.trans harr (.one step_inLoop)) harr₂⟩
      | exit id => exact ⟨_, a₁, w₁, hq, .pass (x := .inLoop c) rfl (fun _ _ => .inl (by simp)) harr⟩
      | goto l => exact ⟨_, a₁, w₁, hq, .pass (x := .inLoop c) rfl (fun _ _ => .inl (by simp)) harr⟩
      | ret => exact ⟨_, a₁, w₁, hq, .pass (x := .inLoop c) rfl (fun _ _ => .inl (by simp)) harr⟩
      | panic ch => exact ⟨_, a₁, w₁, hq, .pass (x := .inLoop c) rfl (fun _ _ => .inl (by simp)) harr⟩
      | outgrown => exact ⟨_, a₁, w₁, hq, .pass (x := .inLoop c) rfl (fun _ _ => .inl (by simp)) harr⟩
  intro b k cs
  obtain ⟨x, hx⟩ := h0 a w f s
  obtain ⟨e, a', w', hq, harr⟩ := key _ x a w rfl hx b k cs
  exact ⟨e, a', w', hq, .of_steps (.one step_loop) harr⟩

/-- What comes behind is asked once, of the state in which the ways meet. -/
theorem cCut {ι : Type} (I : LI ι) {x y : Code} (h : TC P n x ρ F M w0 (Exit.then (fun a w => ∃ z, I.at_ n w0 z a w) Q)) (hy : ∀ z, I.ok z → TC P n y (I.env z) (I.stay z) (I.own z) w0 Q) : TC P n (.seq x y) ρ F M w0 Q := fun a w f s =>
  wp_seq (wp_mono (h a w f s) fun e a w hq => by
    cases e <;> first | exact hq | (obtain ⟨z, h1, h2, h3⟩ := hq; exact hy z h1 a w h2 h3))

/-- A round's end, a place where ways meet. -/
theorem xAt {ι : Type} (I : LI ι) {K : Act → World → Prop} (y : ι) (hok : I.ok y) (he : Env.le (I.env y) ρ) (hm : ∀ w, WS F M w0 w → WS (I.stay y) (I.own y) w0 w) (hK : ∀ a w, I.at_ n w0 y a w → K a w) : TX n .normal ρ F M w0 (Exit.then K Q) := fun a w f s =>
  hK a w ⟨hok, f.less he, hm w s⟩
theorem xRound {ι : Type} (I : LI ι) {m : Nat} (y : ι) (hok : I.ok y) (hlt : I.le y < m) (he : Env.le (I.env y) ρ) (hm : ∀ w, WS F M w0 w → WS (I.stay y) (I.own y) w0 w) : TX n .normal ρ F M w0 (Exit.then (fun a w => ∃ y, I.le y < m ∧ I.at_ n w0 y a w) Q) := fun _ w f s =>
  ⟨y, hlt, hok, f.less he, hm w s⟩
theorem xMeet {ι : Type} (I : LI ι) (y : ι) (hok : I.ok y) (he : Env.le (I.env y) ρ) (hm : ∀ w, WS F M w0 w → WS (I.stay y) (I.own y) w0 w) : TX n .normal ρ F M w0 (Exit.then (fun a w => ∃ z, I.at_ n w0 z a w) Q) := fun _ w f s =>
  ⟨y, hok, f.less he, hm w s⟩
theorem loopStart {ι : Type} (I : LI ι) (y : ι) (hok : I.ok y) (he : Env.le (I.env y) ρ) (hm : ∀ w, WS F M w0 w → WS (I.stay y) (I.own y) w0 w) : ∀ a w, Fit n ρ a → WS F M w0 w → ∃ x, I.at_ n w0 x a w := fun _ w f s => ⟨y, hok, f.less he, hm w s⟩

/-! ### Operations, in a region that does not draw -/
/-- An operation that yields a value and does nothing else, in every world of the class. -/
def Qv (P : Program) (n : Nat) (op : Op) (ty : TypeId) (ρ : Env) (F : Hp) (M : List Chunk) (w0 : World) (v : Value) : Prop :=
  ∀ a w, Fit n ρ a → WS F M w0 w → ∀ dst pos after guard, (execOp a.eval ⟨dst, op, ty, pos, after, guard⟩).run P w = .ok (.value v) w

/-- An operation that does something, and what holds behind it. -/
def Ef (P : Program) (n : Nat) (op : Op) (ty : TypeId) (ρ : Env) (F : Hp) (M : List Chunk) (w0 : World) (Post : Value → Hp → List Chunk → Prop) : Prop :=
  ∀ a w, Fit n ρ a → WS F M w0 w → ∀ dst pos after guard (K : Act → World → Prop) (Q : Exit → Act → World → Prop),
    (∀ v F' M' w', Post v F' M' → WS F' M' w0 w' → K (a.put dst v) w') → (⟨dst, op, ty, pos, after, guard⟩ : Oper).wp P a w K Q

theorem tEnd (h : TX n .normal ρ F M w0 Q) : TL P n ops [] ρ F M w0 Q := fun a w f s => wpList_nil (h a w f s)

theorem tQ {d : Nat} {op : Op} {ty : TypeId} {pos : String} {after : Array Edge} {rest : List Oper} {v : Value} (hd : Nat.blt d n = true) (hq : Qv P n op ty ρ F M w0 v) (h : TL P n ops rest ((d, v) :: ρ) F M w0 Q) :
    TL P n ops (⟨some d, op, ty, pos, after, none⟩ :: rest) ρ F M w0 Q := fun a w f s =>
  wpList_plain rfl fun K hK => by
    show Oper.upon P _ a K Q _
    rw [hq a w f s]
    exact hK _ _ (h _ w (f.put hd) s)

theorem tE {d : Nat} {op : Op} {ty : TypeId} {pos : String} {after : Array Edge} {rest : List Oper} {Post : Value → Hp → List Chunk → Prop} (hd : Nat.blt d n = true) (he : Ef P n op ty ρ F M w0 Post)
    (h : ∀ v F' M', Post v F' M' → TL P n ops rest ((d, v) :: ρ) F' M' w0 Q) :
    TL P n ops (⟨some d, op, ty, pos, after, none⟩ :: rest) ρ F M w0 Q := fun a w f s =>
  wpList_plain rfl fun K hK => he a w f s _ _ _ _ K Q fun v F' M' w' hp hw => hK _ _ (h v F' M' hp _ w' (f.put hd) hw)
theorem tE0 {op : Op} {ty : TypeId} {pos : String} {after : Array Edge} {rest : List Oper} {Post : Value → Hp → List Chunk → Prop} (he : Ef P n op ty ρ F M w0 Post)
    (h : ∀ v F' M', Post v F' M' → TL P n ops rest ρ F' M' w0 Q) :
    TL P n ops (⟨none, op, ty, pos, after, none⟩ :: rest) ρ F M w0 Q := fun a w f s =>
  wpList_plain rfl fun K hK => he a w f s _ _ _ _ K Q fun v F' M' w' hp hw => hK _ _ (h v F' M' hp _ w' f hw)

/-- A guard that says yes: as if there were none; that says no: nothing is done. -/
theorem tGo {dst : Option Tmp} {op : Op} {ty : TypeId} {pos : String} {after : Array Edge} {rest : List Oper} {j d : Nat} {b : Bool} (hj : (ops[j]?).bind (·.dst) = some d) (hb : look ρ d = some (.bool b))
    (h : TL P n ops (⟨dst, op, ty, pos, after, none⟩ :: rest) ρ F M w0 Q) : TL P n ops (⟨dst, op, ty, pos, after, some (j, b)⟩ :: rest) ρ F M w0 Q := fun a w f s => by
  have h1 := h a w f s
  unfold wpList at h1 ⊢
  have hw : Region.wanted ⟨dst, op, ty, pos, after, some (j, b)⟩ (yielded ops a.tmps) = true := by
    simp [Region.wanted, yielded, hj, f.get d _ hb]
  rw [if_pos hw]
  rw [if_pos (by simp [Region.wanted])] at h1
  exact h1
theorem tNo {d' : Nat} {op : Op} {ty : TypeId} {pos : String} {after : Array Edge} {rest : List Oper} {j d : Nat} {b c : Bool} (hj : (ops[j]?).bind (·.dst) = some d) (hb : look ρ d = some (.bool c)) (hc : (c == b) = false) (hd : Nat.blt d' n = true)
    (h : TL P n ops rest ((d', undef) :: ρ) F M w0 Q) : TL P n ops (⟨some d', op, ty, pos, after, some (j, b)⟩ :: rest) ρ F M w0 Q := fun a w f s => by
  unfold wpList
  have hw : ¬ Region.wanted ⟨some d', op, ty, pos, after, some (j, b)⟩ (yielded ops a.tmps) = true := by
    simp [Region.wanted, yielded, hj, f.get d _ hb]
    intro e; rw [e] at hc; simp at hc
  rw [if_neg hw]
  exact h _ w (f.put hd) s

/-- A Bool in a slot is looked at: two ways. -/
theorem tCase {l : List Oper} (d : Nat) {b : Bool} (hb : look ρ d = some (.bool b)) (ht : b = true → TL P n ops l ((d, .bool true) :: ρ) F M w0 Q) (hf : b = false → TL P n ops l ((d, .bool false) :: ρ) F M w0 Q) : TL P n ops l ρ F M w0 Q := fun a w f s => by
  cases b
  · exact hf rfl a w (f.less (Env.le_cons hb (fun _ _ e => e))) s
  · exact ht rfl a w (f.less (Env.le_cons hb (fun _ _ e => e))) s
theorem tEnv {l : List Oper} (ρ' : Env) (hl : Env.le ρ' ρ) (h : TL P n ops l ρ' F M w0 Q) : TL P n ops l ρ F M w0 Q := fun a w f s => h a w (f.less hl) s
theorem tMem {l : List Oper} (M' : List Chunk) (hm : ∀ w, WS F M w0 w → WS F M' w0 w) (h : TL P n ops l ρ F M' w0 Q) : TL P n ops l ρ F M w0 Q := fun a w f s => h a w f (hm w s)
end
end Go.V
namespace Go.V
open Go.RowKit

/-! ### Cells -/
def at1 (h : Hp) (b o : Nat) : Option Value := match h b with | some (.cells c _ _) => c[o]? | _ => none
def atN (h : Hp) (b o k : Nat) : Option (List Value) := match h b with | some (.cells c _ _) => if o + k ≤ c.size then some (c.toList.drop o |>.take k) else none | _ => none
theorem at1_mono {h h' : Hp} (s : Sub h h') {b o : Nat} {v : Value} (e : at1 h b o = some v) : at1 h' b o = some v := by
  unfold at1 at *
  split at e
  · rename_i c _ _ hb; rw [s _ _ hb]; exact e
  · cases e
theorem atN_mono {h h' : Hp} (s : Sub h h') {b o k : Nat} {v : List Value} (e : atN h b o k = some v) : atN h' b o k = some v := by
  unfold atN at *
  split at e
  · rename_i c _ _ hb; rw [s _ _ hb]; exact e
  · cases e
theorem at1_cell {w : World} {b o : Nat} {v : Value} (e : at1 (hp w) b o = some v) : w.cell? ⟨b, o, none⟩ = some v := by
  unfold at1 at e
  split at e
  · rename_i c _ _ hb
    have hb' : w.heap[b]? = some (.cells c _ _) := hb
    simp [World.cell?, hb', e]
  · cases e
theorem at1_of_atN {h : Hp} {b o k : Nat} {vs : List Value} (e : atN h b o k = some vs) (j : Nat) {v : Value} (hj : vs[j]? = some v) : at1 h b (o + j) = some v := by
  unfold atN at e
  unfold at1
  split at e
  · rename_i c _ _ hb
    split at e
    · cases e
      have hjk : j < k := by
        rcases Nat.lt_or_ge j k with h' | h'
        · exact h'
        · rw [List.getElem?_eq_none (by rw [List.length_take]; omega)] at hj; cases hj
      rw [List.getElem?_take, if_pos hjk, List.getElem?_drop] at hj
      simpa [hb] using hj
    · cases e
  · cases e
theorem atN_len {h : Hp} {b o k : Nat} {vs : List Value} (e : atN h b o k = some vs) : vs.length = k := by
  unfold atN at e
  split at e
  · rename_i c _ _ _
    split at e
    · rename_i hh
      cases e
      have : c.toList.length = c.size := Array.length_toList
      rw [List.length_take, List.length_drop]; omega
    · cases e
  · cases e

theorem run_loadCellsFrom (P : Program) (w : World) (b o : Nat) : ∀ (vs : List Value) (i : Nat) (acc : Array Value), (∀ j v, vs[j]? = some v → w.cell? ⟨b, o + (i + j), none⟩ = some v) →
    (loadCellsFrom ⟨b, o, none⟩ i vs.length acc).run P w = .ok (acc ++ vs.toArray) w
  | [], i, acc, _ => by simp [loadCellsFrom]
  | v :: vs, i, acc, h => by
    have h0 : w.cell? ⟨b, o + i, none⟩ = some v := by simpa using h 0 v rfl
    have ha : (⟨b, o, none⟩ : Addr).add i = ⟨b, o + i, none⟩ := by unfold Addr.add; split <;> simp_all
    have ih := run_loadCellsFrom P w b o vs (i + 1) (acc.push v) fun j u hj => by
      have := h (j + 1) u (by simpa using hj)
      rw [show o + (i + 1 + j) = o + (i + (j + 1)) by omega]; exact this
    simp only [List.length_cons, loadCellsFrom, Sem.run_bind, run_load, ha, h0, Result.andThen_ok, ih]
    simp

theorem run_loadCells (P : Program) {w : World} {b o k : Nat} {vs : List Value} (e : atN (hp w) b o k = some vs) : (loadCells ⟨b, o, none⟩ k).run P w = .ok vs.toArray w := by
  obtain rfl := atN_len e
  unfold loadCells
  rw [run_loadCellsFrom P w b o vs 0 #[] (fun j v hj => by simpa using at1_cell (at1_of_atN e j hj))]
  simp

/-- What a block of cells that is known whole reads as. -/
theorem blk_at1 {b : Nat} {cs : List Value} {e : TypeId} {h : Hp} (hc : (blk b cs e).At h) {o : Nat} {v : Value} (hv : cs[o]? = some v) : at1 h b o = some v := by
  obtain ⟨_, h1, rfl⟩ := hc b rfl
  simp [at1, h1, hv]
theorem blk_atN {b : Nat} {cs : List Value} {e : TypeId} {h : Hp} (hc : (blk b cs e).At h) {o k : Nat} (hv : Nat.ble (o + k) cs.length = true) : atN h b o k = some ((cs.drop o).take k) := by
  obtain ⟨_, h1, rfl⟩ := hc b rfl
  simp only [atN, h1, List.size_toArray]
  rw [if_pos (by simpa [Nat.ble_eq] using hv)]

section
variable {P : Program} {n : Nat} {ρ : Env} {F : Hp} {M : List Chunk} {w0 : World} {ty : TypeId}

theorem WS.get {w : World} (s : WS F M w0 w) (i : Nat) {c : Chunk} (hi : M[i]? = some c) : c.At (hp w) := s.at_ c (List.mem_of_getElem? hi)

/-! ### Values without memory -/
theorem qMove {x : Operand} {v : Value} (h : evl ρ x = some v) : Qv P n (.move x) ty ρ F M w0 v := fun a w f _ dst pos after guard => by simp [execOp, f.eval h]
theorem qAssign {x : Operand} {v : Value} (h : evl ρ x = some v) : Qv P n (.assign x) ty ρ F M w0 v := fun a w f _ dst pos after guard => by simp [execOp, f.eval h]
theorem qPickT {c x y : Operand} {v : Value} (hc : evl ρ c = some (.bool true)) (h : evl ρ x = some v) : Qv P n (.pick c x y) ty ρ F M w0 v := fun a w f _ dst pos after guard => by simp [execOp, f.eval h, f.eval hc, asBool]
theorem qPickF {c x y : Operand} {v : Value} (hc : evl ρ c = some (.bool false)) (h : evl ρ y = some v) : Qv P n (.pick c x y) ty ρ F M w0 v := fun a w f _ dst pos after guard => by simp [execOp, f.eval h, f.eval hc, asBool]
theorem qNil {x : Operand} {ad : Addr} (h : evl ρ x = some (.pointer (some ad))) : Qv P n (.nilCheck x) ty ρ F M w0 (.pointer (some ad)) := fun a w f _ dst pos after guard => by simp [execOp, f.eval h]
theorem qExtract {x : Operand} {vs : List Value} {i : Nat} {v : Value} (h : evl ρ x = some (.tuple vs.toArray)) (hi : vs[i]? = some v) : Qv P n (.extract x i) ty ρ F M w0 v := fun a w f _ dst pos after guard => by simp [execOp, f.eval h, Instr.extract, hi]
theorem qNot {t : TypeId} {x : Operand} {b : Bool} (h : evl ρ x = some (.bool b)) : Qv P n (.unOp .not t x) ty ρ F M w0 (.bool !b) := fun a w f _ dst pos after guard => by simp [execOp, f.eval h, Op.unary]
theorem qNeg {t : TypeId} {x : Operand} {k : IntKind} {a c : Int} (h : evl ρ x = some (.int k a)) (hw : k.wrap (0 - a) = c) : Qv P n (.unOp .neg t x) ty ρ F M w0 (.int k c) := fun a w f _ dst pos after guard => by simp [execOp, f.eval h, Op.unary, Op.intArith, ← hw]
theorem qFunc {fn : Fn} {first captured : Array Operand} {xs ys : List Value} (h1 : evls ρ first.toList = some xs) (h2 : evls ρ captured.toList = some ys) : Qv P n (.makeFunc fn first captured) ty ρ F M w0 (.func fn xs.toArray ys.toArray) := by
  intro a w f _ dst pos after guard
  have key : ∀ (l : List Operand) (vs : List Value), evls ρ l = some vs → l.map a.eval = vs := by
    intro l
    induction l with
    | nil => intro vs h; simpa [evls] using h
    | cons x l ih =>
      intro vs h
      simp only [evls] at h
      split at h
      · rename_i v vs' hv hvs'
        cases h
        simp [f.eval hv, ih vs' hvs']
      · cases h
  have e1 : first.map a.eval = xs.toArray := Array.toList_inj.1 (by rw [Array.toList_map, key _ _ h1])
  have e2 : captured.map a.eval = ys.toArray := Array.toList_inj.1 (by rw [Array.toList_map, key _ _ h2])
  simp [execOp, Instr.makeFunc, e1, e2]

/-! ### Whole numbers -/
theorem run_int (P : Program) (w : World) (op : BinOp) (t : TypeId) (x y : Operand) (k : IntKind) (a b : Int) (h1 : op ≠ .shl) (h2 : op ≠ .shr) :
    (do eqGuard op t x y (.int k a) (.int k b); binOp op t (.int k a) (.int k b)).run P w =
      (match op with | .add | .sub | .mul => Op.intArith op k a b | .quo | .rem => Op.intDiv op k a b | .and | .or | .xor | .andNot => Op.intBits op k a b | _ => Op.intCmp op a b).run P w := by
  have hg : (eqGuard op t x y (.int k a) (.int k b)).run P w = .ok () w := by
    unfold eqGuard
    cases op <;> rfl
  rw [Sem.run_bind, hg, Result.andThen_ok]
  cases op <;> first | rfl | exact absurd rfl h1 | exact absurd rfl h2 | simp [binOp]

theorem qBin {op : BinOp} {t u : TypeId} {x y : Operand} {k : IntKind} {a b : Int} {v : Value} (hx : evl ρ x = some (.int k a)) (hy : evl ρ y = some (.int k b)) (h1 : op ≠ .shl) (h2 : op ≠ .shr)
    (hr : ∀ w, (match op with | .add | .sub | .mul => Op.intArith op k a b | .quo | .rem => Op.intDiv op k a b | .and | .or | .xor | .andNot => Op.intBits op k a b | _ => Op.intCmp op a b).run P w = .ok v w) :
    Qv P n (.binOp op t x y u) ty ρ F M w0 v := fun c w f _ dst pos after guard => by
  have := run_int P w op t x y k a b h1 h2
  simp only [execOp, f.eval hx, f.eval hy]
  rw [Sem.run_bind, this, hr w]
  rfl

theorem qAdd {t u : TypeId} {x y : Operand} {k : IntKind} {a b c : Int} (hx : evl ρ x = some (.int k a)) (hy : evl ρ y = some (.int k b)) (hw : k.wrap (a + b) = c) : Qv P n (.binOp .add t x y u) ty ρ F M w0 (.int k c) := qBin hx hy (by simp) (by simp) fun w => by subst hw; rfl
theorem qSub {t u : TypeId} {x y : Operand} {k : IntKind} {a b c : Int} (hx : evl ρ x = some (.int k a)) (hy : evl ρ y = some (.int k b)) (hw : k.wrap (a - b) = c) : Qv P n (.binOp .sub t x y u) ty ρ F M w0 (.int k c) := qBin hx hy (by simp) (by simp) fun w => by subst hw; rfl
theorem qMul {t u : TypeId} {x y : Operand} {k : IntKind} {a b c : Int} (hx : evl ρ x = some (.int k a)) (hy : evl ρ y = some (.int k b)) (hw : k.wrap (a * b) = c) : Qv P n (.binOp .mul t x y u) ty ρ F M w0 (.int k c) := qBin hx hy (by simp) (by simp) fun w => by subst hw; rfl
theorem qQuo {t u : TypeId} {x y : Operand} {k : IntKind} {a b c : Int} (hx : evl ρ x = some (.int k a)) (hy : evl ρ y = some (.int k b)) (hb : b ≠ 0) (hw : k.wrap (a.tdiv b) = c) : Qv P n (.binOp .quo t x y u) ty ρ F M w0 (.int k c) := qBin hx hy (by simp) (by simp) fun w => by subst hw; simp [Op.intDiv, hb]
theorem qRem {t u : TypeId} {x y : Operand} {k : IntKind} {a b c : Int} (hx : evl ρ x = some (.int k a)) (hy : evl ρ y = some (.int k b)) (hb : b ≠ 0) (hw : a.tmod b = c) : Qv P n (.binOp .rem t x y u) ty ρ F M w0 (.int k c) := qBin hx hy (by simp) (by simp) fun w => by subst hw; simp [Op.intDiv, hb]
theorem qEq {t u : TypeId} {x y : Operand} {k : IntKind} {a b : Int} (hx : evl ρ x = some (.int k a)) (hy : evl ρ y = some (.int k b)) : Qv P n (.binOp .eql t x y u) ty ρ F M w0 (.bool (a == b)) := qBin hx hy (by simp) (by simp) fun w => rfl
theorem qNe {t u : TypeId} {x y : Operand} {k : IntKind} {a b : Int} (hx : evl ρ x = some (.int k a)) (hy : evl ρ y = some (.int k b)) : Qv P n (.binOp .neq t x y u) ty ρ F M w0 (.bool (a != b)) := qBin hx hy (by simp) (by simp) fun w => rfl
theorem qLt {t u : TypeId} {x y : Operand} {k : IntKind} {a b : Int} (hx : evl ρ x = some (.int k a)) (hy : evl ρ y = some (.int k b)) : Qv P n (.binOp .lss t x y u) ty ρ F M w0 (.bool (decide (a < b))) := qBin hx hy (by simp) (by simp) fun w => rfl
theorem qLe {t u : TypeId} {x y : Operand} {k : IntKind} {a b : Int} (hx : evl ρ x = some (.int k a)) (hy : evl ρ y = some (.int k b)) : Qv P n (.binOp .leq t x y u) ty ρ F M w0 (.bool (decide (a ≤ b))) := qBin hx hy (by simp) (by simp) fun w => rfl
theorem qGt {t u : TypeId} {x y : Operand} {k : IntKind} {a b : Int} (hx : evl ρ x = some (.int k a)) (hy : evl ρ y = some (.int k b)) : Qv P n (.binOp .gtr t x y u) ty ρ F M w0 (.bool (decide (b < a))) := qBin hx hy (by simp) (by simp) fun w => rfl
theorem qGe {t u : TypeId} {x y : Operand} {k : IntKind} {a b : Int} (hx : evl ρ x = some (.int k a)) (hy : evl ρ y = some (.int k b)) : Qv P n (.binOp .geq t x y u) ty ρ F M w0 (.bool (decide (b ≤ a))) := qBin hx hy (by simp) (by simp) fun w => rfl
theorem qAnd {t u : TypeId} {x y : Operand} {k : IntKind} {a b c : Int} (hx : evl ρ x = some (.int k a)) (hy : evl ρ y = some (.int k b)) (hc : k.wrap ((BitVec.ofInt k.bits a &&& BitVec.ofInt k.bits b).toNat) = c) : Qv P n (.binOp .and t x y u) ty ρ F M w0 (.int k c) := qBin hx hy (by simp) (by simp) fun w => by subst hc; rfl
theorem qOr {t u : TypeId} {x y : Operand} {k : IntKind} {a b c : Int} (hx : evl ρ x = some (.int k a)) (hy : evl ρ y = some (.int k b)) (hc : k.wrap ((BitVec.ofInt k.bits a ||| BitVec.ofInt k.bits b).toNat) = c) : Qv P n (.binOp .or t x y u) ty ρ F M w0 (.int k c) := qBin hx hy (by simp) (by simp) fun w => by subst hc; rfl
theorem run_shift (P : Program) (w : World) (op : BinOp) (t : TypeId) (x y : Operand) (k k' : IntKind) (a b : Int) (h : op = .shl ∨ op = .shr) : (do eqGuard op t x y (.int k a) (.int k' b); binOp op t (.int k a) (.int k' b)).run P w = (Op.shift op k a k' b).run P w := by
  have hg : (eqGuard op t x y (.int k a) (.int k' b)).run P w = .ok () w := by
    unfold eqGuard
    cases op <;> rfl
  rw [Sem.run_bind, hg, Result.andThen_ok]
  rcases h with rfl | rfl <;> rfl
theorem qShl {t u : TypeId} {x y : Operand} {k k' : IntKind} {a b c : Int} (hx : evl ρ x = some (.int k a)) (hy : evl ρ y = some (.int k' b)) (hb : 0 ≤ b) (hw : k.wrap (a * 2 ^ (min b.toNat k.bits)) = c) : Qv P n (.binOp .shl t x y u) ty ρ F M w0 (.int k c) := fun d w f _ dst pos after guard => by
  have := run_shift P w .shl t x y k k' a b (.inl rfl)
  simp only [execOp, f.eval hx, f.eval hy]
  rw [Sem.run_bind, this]
  subst hw
  simp [Op.shift, show ¬ b < 0 by omega]
theorem qShr {t u : TypeId} {x y : Operand} {k k' : IntKind} {a b c : Int} (hx : evl ρ x = some (.int k a)) (hy : evl ρ y = some (.int k' b)) (hb : 0 ≤ b) (hw : a.fdiv (2 ^ (min b.toNat k.bits)) = c) : Qv P n (.binOp .shr t x y u) ty ρ F M w0 (.int k c) := fun d w f _ dst pos after guard => by
  have := run_shift P w .shr t x y k k' a b (.inr rfl)
  simp only [execOp, f.eval hx, f.eval hy]
  rw [Sem.run_bind, this]
  subst hw
  simp [Op.shift, show ¬ b < 0 by omega]
theorem qConv {s t : TypeId} {x : Operand} {ds : TypeDesc} {k k' : IntKind} {a c : Int} (hs : ∀ w, (underlying s).run P w = .ok ds w) (ht : ∀ w, (underlying t).run P w = .ok (.int k) w) (hx : evl ρ x = some (.int k' a)) (hw : k.wrap a = c) : Qv P n (.convert s t x) ty ρ F M w0 (.int k c) := fun d w f _ dst pos after guard => by
  simp only [execOp, f.eval hx, convert, Sem.run_bind, hs, ht, Result.andThen_ok]
  subst hw
  cases ds <;> rfl

/-! ### Other comparisons -/
theorem run_other (P : Program) (w : World) (op : BinOp) (t : TypeId) (x y : Operand) (u v : Value) (r : Bool) (ho : op = .eql ∨ op = .neq)
    (hr : (Op.equal t u v).run P w = .ok r w) (hg : ∀ a b, ¬ (u = .agg a ∧ v = .agg b)) (hn : ¬ (u = .nilIface ∧ v = .nilIface)) (hk : (binOp op t u v) = (match op with | .eql => do pure (.bool (← Op.equal t u v)) | _ => do pure (.bool (!(← Op.equal t u v))))) :
    (do eqGuard op t x y u v; binOp op t u v).run P w = .ok (.bool (match op with | .eql => r | _ => !r)) w := by
  have hg : (eqGuard op t x y u v).run P w = .ok () w := by
    unfold eqGuard
    rcases ho with rfl | rfl <;> (cases u <;> cases v <;> first | rfl | exact absurd ⟨rfl, rfl⟩ hn | exact absurd ⟨rfl, rfl⟩ (hg _ _))
  rw [Sem.run_bind, hg, Result.andThen_ok, hk]
  rcases ho with rfl | rfl <;> simp [hr]

theorem qBoolEq {t u : TypeId} {x y : Operand} {a b : Bool} (ht : ∀ w, (underlying t).run P w = .ok .bool w) (hx : evl ρ x = some (.bool a)) (hy : evl ρ y = some (.bool b)) : Qv P n (.binOp .eql t x y u) ty ρ F M w0 (.bool (a == b)) := fun c w f _ dst pos after guard => by
  simp only [execOp, f.eval hx, f.eval hy]
  rw [Sem.run_bind, run_other P w .eql t x y _ _ (a == b) (.inl rfl) (by show (Op.equalIn (9999 + 1) t _ _).run P w = _; unfold Op.equalIn; simp [ht]) (by simp) (by simp) rfl]
  rfl
theorem qBoolNe {t u : TypeId} {x y : Operand} {a b : Bool} (ht : ∀ w, (underlying t).run P w = .ok .bool w) (hx : evl ρ x = some (.bool a)) (hy : evl ρ y = some (.bool b)) : Qv P n (.binOp .neq t x y u) ty ρ F M w0 (.bool (!(a == b))) := fun c w f _ dst pos after guard => by
  simp only [execOp, f.eval hx, f.eval hy]
  rw [Sem.run_bind, run_other P w .neq t x y _ _ (a == b) (.inr rfl) (by show (Op.equalIn (9999 + 1) t _ _).run P w = _; unfold Op.equalIn; simp [ht]) (by simp) (by simp) rfl]
  rfl
theorem qSliceEqNil {t u e : TypeId} {x y : Operand} {A : Option Addr} {l c l' c' : Nat} (ht : ∀ w, (underlying t).run P w = .ok (.slice e) w) (hx : evl ρ x = some (.slice A l c)) (hy : evl ρ y = some (.slice none l' c')) : Qv P n (.binOp .eql t x y u) ty ρ F M w0 (.bool A.isNone) := fun d w f _ dst pos after guard => by
  simp only [execOp, f.eval hx, f.eval hy]
  rw [Sem.run_bind, run_other P w .eql t x y _ _ A.isNone (.inl rfl) (by show (Op.equalIn (9999 + 1) t _ _).run P w = _; unfold Op.equalIn; cases A <;> simp [ht]) (by simp) (by simp) rfl]
  rfl
theorem qSliceNeNil {t u e : TypeId} {x y : Operand} {A : Option Addr} {l c l' c' : Nat} (ht : ∀ w, (underlying t).run P w = .ok (.slice e) w) (hx : evl ρ x = some (.slice A l c)) (hy : evl ρ y = some (.slice none l' c')) : Qv P n (.binOp .neq t x y u) ty ρ F M w0 (.bool (!A.isNone)) := fun d w f _ dst pos after guard => by
  simp only [execOp, f.eval hx, f.eval hy]
  rw [Sem.run_bind, run_other P w .neq t x y _ _ A.isNone (.inr rfl) (by show (Op.equalIn (9999 + 1) t _ _).run P w = _; unfold Op.equalIn; cases A <;> simp [ht]) (by simp) (by simp) rfl]
  rfl
theorem qPtrEqNil {t u e : TypeId} {x y : Operand} {A : Option Addr} (ht : ∀ w, (underlying t).run P w = .ok (.pointer e) w) (hx : evl ρ x = some (.pointer A)) (hy : evl ρ y = some (.pointer none)) : Qv P n (.binOp .eql t x y u) ty ρ F M w0 (.bool A.isNone) := fun d w f _ dst pos after guard => by
  simp only [execOp, f.eval hx, f.eval hy]
  rw [Sem.run_bind, run_other P w .eql t x y _ _ A.isNone (.inl rfl) (by show (Op.equalIn (9999 + 1) t _ _).run P w = _; unfold Op.equalIn; cases A <;> simp [ht]) (by simp) (by simp) rfl]
  rfl
theorem qPtrNeNil {t u e : TypeId} {x y : Operand} {A : Option Addr} (ht : ∀ w, (underlying t).run P w = .ok (.pointer e) w) (hx : evl ρ x = some (.pointer A)) (hy : evl ρ y = some (.pointer none)) : Qv P n (.binOp .neq t x y u) ty ρ F M w0 (.bool (!A.isNone)) := fun d w f _ dst pos after guard => by
  simp only [execOp, f.eval hx, f.eval hy]
  rw [Sem.run_bind, run_other P w .neq t x y _ _ A.isNone (.inr rfl) (by show (Op.equalIn (9999 + 1) t _ _).run P w = _; unfold Op.equalIn; cases A <;> simp [ht]) (by simp) (by simp) rfl]
  rfl

/-! ### Strings -/
theorem run_str (P : Program) (w : World) (op : BinOp) (t : TypeId) (x y : Operand) (a b : ByteArray) (ho : op ≠ .shl ∧ op ≠ .shr) : (do eqGuard op t x y (.string a) (.string b); binOp op t (.string a) (.string b)).run P w = (Op.stringOp op a b).run P w := by
  have hg : (eqGuard op t x y (.string a) (.string b)).run P w = .ok () w := by
    unfold eqGuard
    cases op <;> rfl
  rw [Sem.run_bind, hg, Result.andThen_ok]
  cases op <;> first | rfl | exact absurd rfl ho.1 | exact absurd rfl ho.2
theorem ba_eq (a b : ByteArray) : (a.toList == b.toList) = decide (a = b) := by
  have h : ∀ c : ByteArray, c.toList = c.data.toList := fun c => ByteArray.toList_eq c
  rw [h, h, Bool.eq_iff_iff]
  simp only [beq_iff_eq, decide_eq_true_eq]
  constructor
  · intro e; cases a; cases b; congr 1; exact Array.toList_inj.1 e
  · intro e; rw [e]
theorem qStrEq {t u : TypeId} {x y : Operand} {a b : ByteArray} (hx : evl ρ x = some (.string a)) (hy : evl ρ y = some (.string b)) : Qv P n (.binOp .eql t x y u) ty ρ F M w0 (.bool (decide (a = b))) := fun c w f _ dst pos after guard => by
  simp only [execOp, f.eval hx, f.eval hy]
  rw [Sem.run_bind, run_str P w .eql t x y a b (by simp), ← ba_eq]
  rfl
theorem qStrNe {t u : TypeId} {x y : Operand} {a b : ByteArray} (hx : evl ρ x = some (.string a)) (hy : evl ρ y = some (.string b)) : Qv P n (.binOp .neq t x y u) ty ρ F M w0 (.bool (!decide (a = b))) := fun c w f _ dst pos after guard => by
  simp only [execOp, f.eval hx, f.eval hy]
  rw [Sem.run_bind, run_str P w .neq t x y a b (by simp), ← ba_eq]
  rfl
theorem qStrAdd {t u : TypeId} {x y : Operand} {a b : ByteArray} (hx : evl ρ x = some (.string a)) (hy : evl ρ y = some (.string b)) (hs : a.size + b.size ≤ 9223372036854775807) : Qv P n (.binOp .add t x y u) ty ρ F M w0 (.string (a ++ b)) := fun c w f _ dst pos after guard => by
  simp only [execOp, f.eval hx, f.eval hy]
  rw [Sem.run_bind, run_str P w .add t x y a b (by simp)]
  have h1 : ¬ (((a.size + b.size : Nat) : Int) > IntKind.i64.max) := by
    have : IntKind.i64.max = 9223372036854775807 := rfl
    rw [this]; omega
  simp only [Op.stringOp]
  rw [if_neg h1]
  rfl
theorem qIdxStr {t : TypeId} {x i : Operand} {k : IntKind} {s : ByteArray} {ix : Int} {b : UInt8} (ht : ∀ w, (underlying t).run P w = .ok .string w) (hx : evl ρ x = some (.string s)) (hi : evl ρ i = some (.int k ix)) (h0 : 0 ≤ ix) (hb : s[ix.toNat]? = some b) : Qv P n (.index t x i) ty ρ F M w0 (.int .u8 b.toNat) := fun c w f _ dst pos after guard => by
  simp [execOp, f.eval hx, f.eval hi, Instr.index, asIntOf, ht, h0, hb]
theorem qLenStr {t rt : TypeId} {x : Operand} {s : ByteArray} {ts : Array TypeId} (ht : ∀ w, (underlying t).run P w = .ok .string w) (hts : ts[0]? = some t) (hx : evl ρ x = some (.string s)) : Qv P n (.call { callee := .builtin .len, args := #[x], argTypes := ts }) rt ρ F M w0 (.int .i64 s.size) := fun c w f _ dst pos after guard => by
  simp [execOp, resolve, invoke, builtin, f.eval hx, Builtin.len_, hts, ht, goInt]
theorem qLen {t rt e : TypeId} {x : Operand} {A : Option Addr} {l cp : Nat} {ts : Array TypeId} (ht : ∀ w, (underlying t).run P w = .ok (.slice e) w) (hts : ts[0]? = some t) (hx : evl ρ x = some (.slice A l cp)) : Qv P n (.call { callee := .builtin .len, args := #[x], argTypes := ts }) rt ρ F M w0 (.int .i64 l) := fun c w f _ dst pos after guard => by
  simp [execOp, resolve, invoke, builtin, f.eval hx, Builtin.len_, hts, ht, goInt]
theorem qCap {t rt e : TypeId} {x : Operand} {A : Option Addr} {l cp : Nat} {ts : Array TypeId} (ht : ∀ w, (underlying t).run P w = .ok (.slice e) w) (hts : ts[0]? = some t) (hx : evl ρ x = some (.slice A l cp)) : Qv P n (.call { callee := .builtin .cap, args := #[x], argTypes := ts }) rt ρ F M w0 (.int .i64 cp) := fun c w f _ dst pos after guard => by
  simp [execOp, resolve, invoke, builtin, f.eval hx, Builtin.cap_, hts, ht, goInt]
theorem qMin {t u rt : TypeId} {x y : Operand} {k k' : IntKind} {a b : Int} (hx : evl ρ x = some (.int k a)) (hy : evl ρ y = some (.int k' b)) : Qv P n (.call { callee := .builtin .min, args := #[x, y], argTypes := #[t, u] }) rt ρ F M w0 (.int k (min a b)) := fun c w f _ dst pos after guard => by
  simp [execOp, resolve, invoke, builtin, f.eval hx, f.eval hy, Builtin.min_, Builtin.min2]
  split <;> omega
theorem qMax {t u rt : TypeId} {x y : Operand} {k k' : IntKind} {a b : Int} (hx : evl ρ x = some (.int k a)) (hy : evl ρ y = some (.int k' b)) : Qv P n (.call { callee := .builtin .max, args := #[x, y], argTypes := #[t, u] }) rt ρ F M w0 (.int k (max a b)) := fun c w f _ dst pos after guard => by
  simp [execOp, resolve, invoke, builtin, f.eval hx, f.eval hy, Builtin.max_, Builtin.max2]
  split <;> omega

/-! ### Addresses -/
theorem qFieldAddr {s : TypeId} {x : Operand} {b o : Nat} {i : Nat} {fs : Array Field} {fl : Field} {sz o' : Nat} (hs : ∀ w, (underlying s).run P w = .ok (.struct fs) w) (hf : fs[i]? = some fl) (hz : ∀ w, (sizeOf fl.type).run P w = .ok sz w) (hsz : Nat.beq sz 0 = false) (hx : evl ρ x = some (.pointer (some ⟨b, o, none⟩))) (ho : fl.offset = o') :
    Qv P n (.fieldAddr s x i) ty ρ F M w0 (.pointer (some ⟨b, o + o', none⟩)) := fun c w f _ dst pos after guard => by
  subst ho
  have hne : sz ≠ 0 := fun e => by rw [e] at hsz; cases hsz
  have ha : (⟨b, o, none⟩ : Addr).add fl.offset = ⟨b, o + fl.offset, none⟩ := by unfold Addr.add; split <;> simp_all
  simp [execOp, f.eval hx, Instr.fieldAt, hs, hf, Instr.sureAddr, fieldPlace, hz, hne, ha]
theorem qIdxAddr {t e : TypeId} {x i : Operand} {k : IntKind} {b o l cp sz : Nat} {ix : Int} {j : Nat} (ht : ∀ w, (underlying t).run P w = .ok (.slice e) w) (hz : ∀ w, (sizeOf e).run P w = .ok sz w) (hx : evl ρ x = some (.slice (some ⟨b, o, none⟩) l cp)) (hi : evl ρ i = some (.int k ix)) (hj : ix = (j : Int)) (hl : j < l) :
    Qv P n (.indexAddr t x i) ty ρ F M w0 (.pointer (some ⟨b, o + j * sz, none⟩)) := fun c w f _ dst pos after guard => by
  subst hj
  have ha : (⟨b, o, none⟩ : Addr).add (j * sz) = ⟨b, o + j * sz, none⟩ := by unfold Addr.add; split <;> simp_all
  simp [execOp, f.eval hx, f.eval hi, Instr.indexAt, asIntOf, ht, hl, hz, ha]
theorem qIdxAddrArr {t e : TypeId} {x i : Operand} {k : IntKind} {b o l sz : Nat} {ix : Int} {j : Nat} (ht : ∀ w, (underlying t).run P w = .ok (.array l e) w) (hz : ∀ w, (sizeOf e).run P w = .ok sz w) (hx : evl ρ x = some (.pointer (some ⟨b, o, none⟩))) (hi : evl ρ i = some (.int k ix)) (hj : ix = (j : Int)) (hl : j < l) :
    Qv P n (.indexAddr t x i) ty ρ F M w0 (.pointer (some ⟨b, o + j * sz, none⟩)) := fun c w f _ dst pos after guard => by
  subst hj
  have ha : (⟨b, o, none⟩ : Addr).add (j * sz) = ⟨b, o + j * sz, none⟩ := by unfold Addr.add; split <;> simp_all
  simp [execOp, f.eval hx, f.eval hi, Instr.indexAt, Instr.sureAddr, asIntOf, ht, hl, hz, ha]
/-- `xs[lo:hi]`, at a capacity that is not the low end. -/
theorem qSliceLH {t e rt : TypeId} {x : Operand} {lo hi : Option Operand} {b o l cp sz : Nat} {i j : Nat} (ht : ∀ w, (underlying t).run P w = .ok (.slice e) w) (hz : ∀ w, (sizeOf e).run P w = .ok sz w) (hx : evl ρ x = some (.slice (some ⟨b, o, none⟩) l cp))
    (hlo : (∀ y, lo = some y → ∃ k, evl ρ y = some (.int k (i : Int))) ∧ (lo = none → i = 0)) (hhi : (∀ y, hi = some y → ∃ k, evl ρ y = some (.int k (j : Int))) ∧ (hi = none → j = l)) (hij : i ≤ j) (hj : j ≤ cp) :
    Qv P n (.slice t x lo hi none) rt ρ F M w0 (.slice (some (if cp = i then ⟨b, o, none⟩ else ⟨b, o + i * sz, none⟩)) (j - i) (cp - i)) := fun c w f _ dst pos after guard => by
  have ha : (⟨b, o, none⟩ : Addr).add (i * sz) = ⟨b, o + i * sz, none⟩ := by unfold Addr.add; split <;> simp_all
  cases lo with
  | none =>
    obtain rfl := hlo.2 rfl
    cases hi with
    | none =>
      obtain rfl := hhi.2 rfl
      have ha' : (⟨b, o, none⟩ : Addr).add 0 = ⟨b, o, none⟩ := rfl
      simp [execOp, f.eval hx, Instr.sliceAt, Instr.slice, Instr.sliceBounds, ht, hz, ha']
    | some y =>
      obtain ⟨k, hk⟩ := hhi.1 y rfl
      have ha' : (⟨b, o, none⟩ : Addr).add 0 = ⟨b, o, none⟩ := rfl
      simp [execOp, f.eval hx, f.eval hk, Instr.sliceAt, Instr.slice, Instr.sliceBounds, Instr.sliceBound, asIntOf, ht, hz, ha', hj]
  | some z =>
    obtain ⟨k', hk'⟩ := hlo.1 z rfl
    cases hi with
    | none =>
      obtain rfl := hhi.2 rfl
      simp [execOp, f.eval hx, f.eval hk', Instr.sliceAt, Instr.slice, Instr.sliceBounds, Instr.sliceBound, asIntOf, ht, hz, ha, hij]
      split <;> rfl
    | some y =>
      obtain ⟨k, hk⟩ := hhi.1 y rfl
      simp [execOp, f.eval hx, f.eval hk, f.eval hk', Instr.sliceAt, Instr.slice, Instr.sliceBounds, Instr.sliceBound, asIntOf, ht, hz, ha, hj, hij]
      split <;> rfl
theorem qSliceStr {t rt : TypeId} {x : Operand} {lo hi : Option Operand} {s : ByteArray} {i j : Nat} (ht : ∀ w, (underlying t).run P w = .ok .string w) (hx : evl ρ x = some (.string s))
    (hlo : (∀ y, lo = some y → ∃ k, evl ρ y = some (.int k (i : Int))) ∧ (lo = none → i = 0)) (hhi : (∀ y, hi = some y → ∃ k, evl ρ y = some (.int k (j : Int))) ∧ (hi = none → j = s.size)) (hij : i ≤ j) (hj : j ≤ s.size) :
    Qv P n (.slice t x lo hi none) rt ρ F M w0 (.string (s.extract i j)) := fun c w f _ dst pos after guard => by
  cases lo with
  | none =>
    obtain rfl := hlo.2 rfl
    cases hi with
    | none =>
      obtain rfl := hhi.2 rfl
      simp [execOp, f.eval hx, Instr.sliceAt, Instr.slice, Instr.sliceBounds, ht]
    | some y =>
      obtain ⟨k, hk⟩ := hhi.1 y rfl
      simp [execOp, f.eval hx, f.eval hk, Instr.sliceAt, Instr.slice, Instr.sliceBounds, Instr.sliceBound, asIntOf, ht, hj]
  | some z =>
    obtain ⟨k', hk'⟩ := hlo.1 z rfl
    cases hi with
    | none =>
      obtain rfl := hhi.2 rfl
      simp [execOp, f.eval hx, f.eval hk', Instr.sliceAt, Instr.slice, Instr.sliceBounds, Instr.sliceBound, asIntOf, ht, hij]
    | some y =>
      obtain ⟨k, hk⟩ := hhi.1 y rfl
      simp [execOp, f.eval hx, f.eval hk, f.eval hk', Instr.sliceAt, Instr.slice, Instr.sliceBounds, Instr.sliceBound, asIntOf, ht, hj, hij]

/-! ### Loads -/
theorem qLd1 {t : TypeId} {x : Operand} {b o : Nat} {v : Value} (hg : ∀ w, (isAgg t).run P w = .ok false w) (hx : evl ρ x = some (.pointer (some ⟨b, o, none⟩))) (hc : at1 F b o = some v) : Qv P n (.load t x) ty ρ F M w0 v := fun c w f s dst pos after guard => by
  simp [execOp, f.eval hx, Instr.loadAt, Instr.sureAddr, loadVar, hg, at1_cell (at1_mono s.sub hc)]
theorem qLd1M {t : TypeId} {x : Operand} (i : Nat) {b o : Nat} {cs : List Value} {e : TypeId} {v : Value} (hg : ∀ w, (isAgg t).run P w = .ok false w) (hx : evl ρ x = some (.pointer (some ⟨b, o, none⟩))) (hm : M[i]? = some (blk b cs e)) (hv : cs[o]? = some v) : Qv P n (.load t x) ty ρ F M w0 v := fun c w f s dst pos after guard => by
  simp [execOp, f.eval hx, Instr.loadAt, Instr.sureAddr, loadVar, hg, at1_cell (blk_at1 (s.get i hm) hv)]
theorem qLdN {t : TypeId} {x : Operand} {b o k : Nat} {vs : List Value} (hg : ∀ w, (isAgg t).run P w = .ok true w) (hz : ∀ w, (sizeOf t).run P w = .ok k w) (hx : evl ρ x = some (.pointer (some ⟨b, o, none⟩))) (hc : atN F b o k = some vs) : Qv P n (.load t x) ty ρ F M w0 (.agg vs.toArray) := fun c w f s dst pos after guard => by
  simp [execOp, f.eval hx, Instr.loadAt, Instr.sureAddr, loadVar, hg, hz, run_loadCells P (atN_mono s.sub hc)]
theorem qLdNM {t : TypeId} {x : Operand} (i : Nat) {b o k : Nat} {cs vs : List Value} {e : TypeId} (hg : ∀ w, (isAgg t).run P w = .ok true w) (hz : ∀ w, (sizeOf t).run P w = .ok k w) (hx : evl ρ x = some (.pointer (some ⟨b, o, none⟩))) (hm : M[i]? = some (blk b cs e)) (hl : Nat.ble (o + k) cs.length = true) (hv : (cs.drop o).take k = vs) : Qv P n (.load t x) ty ρ F M w0 (.agg vs.toArray) := fun c w f s dst pos after guard => by
  subst hv
  simp [execOp, f.eval hx, Instr.loadAt, Instr.sureAddr, loadVar, hg, hz, run_loadCells P (blk_atN (s.get i hm) hl)]

/-! ### Parts of values -/
theorem qField1 {s : TypeId} {x : Operand} {i : Nat} {fs : Array Field} {fl : Field} {cs : List Value} {v : Value} (hs : ∀ w, (underlying s).run P w = .ok (.struct fs) w) (hf : fs[i]? = some fl) (hg : ∀ w, (isAgg fl.type).run P w = .ok false w) (hx : evl ρ x = some (.agg cs.toArray)) (hv : cs[fl.offset]? = some v) : Qv P n (.field s x i) ty ρ F M w0 v := fun c w f _ dst pos after guard => by
  simp [execOp, f.eval hx, Instr.field, hs, hf, asAgg, part, hg, hv]
theorem qIdxArr1 {t e : TypeId} {x i : Operand} {k : IntKind} {l : Nat} {ix : Int} {j : Nat} {cs : List Value} {v : Value} (ht : ∀ w, (underlying t).run P w = .ok (.array l e) w) (hz : ∀ w, (sizeOf e).run P w = .ok 1 w) (hg : ∀ w, (isAgg e).run P w = .ok false w) (hx : evl ρ x = some (.agg cs.toArray)) (hi : evl ρ i = some (.int k ix)) (hj : ix = (j : Int)) (hl : j < l) (hv : cs[j]? = some v) : Qv P n (.index t x i) ty ρ F M w0 v := fun c w f _ dst pos after guard => by
  subst hj
  simp [execOp, f.eval hx, f.eval hi, Instr.index, asIntOf, ht, hl, hz, part, hg, hv]
end
end Go.V
namespace Go.V
open Go.RowKit

/-! ### A region that draws: a head in any order, a tail in one -/
section
variable {P : Program} {ops : Array Oper} {md : Region.Mode} {S : World → Prop} {Q : Exit → Act → World → Prop}

/-- Whatever order is picked from here on, till the head has come up; S behind every operation; then L. -/
def wpHd (P : Program) (md : Region.Mode) (ops : Array Oper) (Q : Exit → Act → World → Prop) (S : World → Prop) (n : Nat) (L : Array Bool → Act → World → Prop) : Nat → Array Bool → Act → World → Prop
  | 0, listed, a, w => L listed a w
  | f + 1, listed, a, w =>
    Region.ready md ops listed ≠ [] ∧ ∀ i ∈ Region.ready md ops listed, i < n ∧ wpOp P ops Q i (fun a' w' => S w' ∧ wpHd P md ops Q S n L f (listed.setIfInBounds i true) a' w') a w

theorem wpAny_of_hd {n g : Nat} {L : Array Bool → Act → World → Prop} (hL : ∀ listed a w, L listed a w → wpAny P md ops Q g listed a w) :
    ∀ (f : Nat) (listed : Array Bool) (a : Act) (w : World), wpHd P md ops Q S n L f listed a w → wpAny P md ops Q (f + g) listed a w
  | 0, listed, a, w, h => by rw [Nat.zero_add]; exact hL _ _ _ h
  | f + 1, listed, a, w, h => by
    rw [show f + 1 + g = (f + g) + 1 by omega]
    exact ⟨fun h0 => absurd h0 h.1, fun i hi => wpOp_mono (fun a' w' h' => wpAny_of_hd hL f _ a' w' h'.2) (h.2 i hi).2⟩

theorem wpHd_first {n i : Nat} {oi : Oper} {v : Value} {L : Array Bool → Act → World → Prop} (hi : ops[i]? = some oi) (hsel : ∀ (j : Nat) (o : Oper) cs b, ops[j]? = some o → o.op ≠ .select cs b)
    (hQ : ∀ c a w, Q (.panic c) (a.put oi.dst v) w → Q (.panic c) a w)
    (hs : Region.sinkB md ops n = true) (hc : Region.chainB md ops n = true) (hn : n < ops.size) (hin : i < n)
    (hdone : ∀ listed a w, L listed a w → ∀ j ∈ Region.ready md ops listed, n ≤ j) :
    ∀ (f : Nat) (listed : Array Bool) (a : Act) (w : World), HeadInv md ops n listed →
      (∀ j oj, ops[j]? = some oj → j ≠ i → listed.getD j true = false → (∀ e ∈ oj.after, Region.binds md e = true → e.on ≠ i) → oi.apart ops oj = true) →
      i ∈ Region.ready md ops listed → YieldsIf P ops S oi v a → S w →
      wpHd P md ops Q S n L f (listed.setIfInBounds i true) (a.put oi.dst v) w → wpHd P md ops Q S n L (f + 1) listed a w := by
  intro f
  induction f with
  | zero =>
    intro listed a w inv _ hr hy hS H
    have hun := (mem_ready.1 hr).1
    refine ⟨fun h => (by rw [h] at hr; cases hr), fun j hj => ?_⟩
    have hjn : j < n := by
      rcases Nat.lt_or_ge j n with h | h
      · exact h
      · exact absurd hj (tail_waits hs hc hn inv _ i rfl hin hun j h)
    refine ⟨hjn, ?_⟩
    by_cases hji : j = i
    · subst hji; exact hy.wpOp hi hS ⟨hS, H⟩
    · have := hdone _ _ _ H j (ready_mono hj hji)
      omega
  | succ f ih =>
    intro listed a w inv hfree hr hy hS H
    have hun := (mem_ready.1 hr).1
    refine ⟨fun h => (by rw [h] at hr; cases hr), fun j hj => ?_⟩
    have hjn : j < n := by
      rcases Nat.lt_or_ge j n with h | h
      · exact h
      · exact absurd hj (tail_waits hs hc hn inv _ i rfl hin hun j h)
    refine ⟨hjn, ?_⟩
    by_cases hji : j = i
    · subst hji; exact hy.wpOp hi hS ⟨hS, H⟩
    · have h1 := (H.2 j (ready_mono hj hji)).2
      obtain ⟨hjun, oj, hoj, hall⟩ := mem_ready.1 hj
      have hnot : ∀ e ∈ oj.after, Region.binds md e = true → e.on ≠ i := fun e he hb heq => by
        have h1 := hall e he hb
        rw [heq, getD_both hun] at h1
        cases h1
      have h2 := wpOp_putIf hoj (hfree j oj hoj hji hjun hnot) (fun cs b => hsel i oi cs b hi) (fun cs b => hsel j oj cs b hoj) hQ hy h1
      have hfree' : ∀ k ok, ops[k]? = some ok → k ≠ i → (listed.setIfInBounds j true).getD k true = false →
          (∀ e ∈ ok.after, Region.binds md e = true → e.on ≠ i) → oi.apart ops ok = true := fun k ok hk hki hun hno => by
        refine hfree k ok hk hki ?_ hno
        by_cases hjk : j = k
        · subst hjk; exact hjun
        · rw [getD_set_ne true hjk] at hun; exact hun
      refine wpOp_mono (fun a' w' h3 => ⟨h3.2.1, ih (listed.setIfInBounds j true) a' w' (inv.set hj hjn) hfree' (ready_mono hr (Ne.symm hji)) h3.1 h3.2.1 ?_⟩) h2
      rw [Array.setIfInBounds_comm _ _ hji]
      exact h3.2.2

/-- The order of a head's walk: a number, and whether it is quiet. Is it an order that may be walked? -/
def ordB (md : Region.Mode) (ops : Array Oper) (n g : Nat) : List (Nat × Bool) → Array Bool → Bool
  | [], listed => Region.seqB md ops g n listed
  | (i, true) :: l, listed => Nat.blt i n && (Region.ready md ops listed).contains i && Region.free md ops listed i && ordB md ops n g l (listed.setIfInBounds i true)
  | (i, false) :: l, listed => Nat.blt i n && decide (Region.ready md ops listed = [i]) && ordB md ops n g l (listed.setIfInBounds i true)
def drawB (md : Region.Mode) (ops : Array Oper) (n : Nat) (l : List (Nat × Bool)) : Bool :=
  Region.noSelect ops && Nat.blt n ops.size && Nat.beq l.length n && Region.sinkB md ops n && Region.chainB md ops n && ordB md ops n (ops.size - n) l (Array.replicate ops.size false)

/-- The walk in that order. -/
def wd (P : Program) (ops : Array Oper) (Q : Exit → Act → World → Prop) (S : World → Prop) (T : Act → World → Prop) : List (Nat × Bool) → Act → World → Prop
  | [], a, w => T a w
  | (i, true) :: l, a, w => ∃ o v, ops[i]? = some o ∧ YieldsIf P ops S o v a ∧ S w ∧ wd P ops Q S T l (a.put o.dst v) w
  | (i, false) :: l, a, w => wpOp P ops Q i (fun a' w' => S w' ∧ wd P ops Q S T l a' w') a w

theorem wpHd_of_wd {n g : Nat} {T : Act → World → Prop} (hsel : Region.noSelect ops = true) (hs : Region.sinkB md ops n = true) (hc : Region.chainB md ops n = true) (hn : n < ops.size)
    (hQ : ∀ c a d v w, Q (.panic c) (a.put d v) w → Q (.panic c) a w) :
    ∀ (l : List (Nat × Bool)) (listed : Array Bool) (a : Act) (w : World), HeadInv md ops n listed → ordB md ops n g l listed = true → wd P ops Q S T l a w →
    wpHd P md ops Q S n (fun listed' a' w' => Region.seqB md ops g n listed' = true ∧ T a' w') l.length listed a w
  | [], listed, a, w, _, hB, h => ⟨hB, h⟩
  | (i, true) :: l, listed, a, w, inv, hB, h => by
    simp only [ordB, Bool.and_eq_true] at hB
    obtain ⟨⟨⟨h1, h2⟩, h3⟩, h4⟩ := hB
    have hin : i < n := by simpa [Nat.blt_eq] using h1
    have hr : i ∈ Region.ready md ops listed := by simpa using h2
    obtain ⟨o, v, ho, hy, hS, hk⟩ := h
    exact wpHd_first ho (Region.noSelect_spec hsel) (fun c a w => hQ c a _ _ w) hs hc hn hin (fun listed' a' w' hL => seqB_ready hL.1) l.length listed a w inv (Region.free_spec ho h3) hr hy hS
      (wpHd_of_wd hsel hs hc hn hQ l _ _ _ (inv.set hr hin) h4 hk)
  | (i, false) :: l, listed, a, w, inv, hB, h => by
    simp only [ordB, Bool.and_eq_true, decide_eq_true_eq] at hB
    obtain ⟨⟨h1, h2⟩, h4⟩ := hB
    have hin : i < n := by simpa [Nat.blt_eq] using h1
    refine ⟨fun e => (by rw [e] at h2; cases h2), fun j hj => ?_⟩
    have hji : j = i := by rw [h2] at hj; simpa using hj
    subst hji
    exact ⟨hin, wpOp_mono (fun a' w' h' => ⟨h'.1, wpHd_of_wd hsel hs hc hn hQ l _ a' w' (inv.set (by rw [h2]; simp) hin) h4 h'.2⟩) h⟩

theorem wp_draw {id n : Nat} {a : Act} {w : World} {ol : List Oper} (l : List (Nat × Bool)) (hm : P.follows .mixedOrders = true) (hB : drawB .any ol.toArray n l = true) (hQ : ∀ c a d v w, Q (.panic c) (a.put d v) w → Q (.panic c) a w)
    (h : wd P ol.toArray Q S (fun a' w' => wpList P ol.toArray Q (ol.drop n) a' w') l a { w with drawn := w.drawn + 1 }) : (Code.region id ol.toArray true).wp P Q a w := by
  simp only [drawB, Bool.and_eq_true] at hB
  obtain ⟨⟨⟨⟨⟨hsel, hn'⟩, hlen⟩, hs⟩, hc⟩, hord⟩ := hB
  have hn : n < ol.toArray.size := by simpa [Nat.blt_eq] using hn'
  have hl : l.length = n := Nat.eq_of_beq_eq_true hlen
  have inv0 : HeadInv .any ol.toArray n (Array.replicate ol.toArray.size false) :=
    ⟨by simp, fun j oj _ hl => (by rw [getD_replicate_false] at hl; cases hl), fun t _ ht => getD_in (by simpa using ht) (getD_replicate_false _ _)⟩
  have H := wpHd_of_wd (md := .any) (g := ol.toArray.size - n) hsel hs hc hn hQ l _ a _ inv0 hord h
  refine wp_region_any hm ?_
  have hdl : (ol.drop n).length = ol.toArray.size - n := by simp
  have := wpAny_of_hd (Q := Q) (g := ol.toArray.size - n) (fun listed a' w' hL => by
    have := wpAny_of_seq (md := .any) (Q' := Q) (ol.drop n) n listed a' w' (fun j => by simp [List.getElem?_drop]) (by rw [hdl]; exact hL.1) hL.2
    rwa [hdl] at this) _ _ _ _ H
  rw [hl, show n + (ol.toArray.size - n) = ol.toArray.size by omega] at this
  exact this
end

section
variable {P : Program} {n : Nat} {ops : Array Oper} {ρ : Env} {F : Hp} {M : List Chunk} {w0 : World} {Q : Exit → Act → World → Prop}

/-- The head's walk, in terms of frames. MS: what of the chunks is read on the way, and stays. -/
def TD (P : Program) (n : Nat) (ops : Array Oper) (T : Act → World → Prop) (FS : Hp) (MS : List Chunk) (l : List (Nat × Bool)) (ρ : Env) (F : Hp) (M : List Chunk) (w0 : World) (Q : Exit → Act → World → Prop) : Prop :=
  ∀ a w, Fit n ρ a → WS F M w0 w → wd P ops Q (WS FS MS w0) T l a w

theorem dNil {T : Act → World → Prop} {FS : Hp} {MS : List Chunk} (h : ∀ a w, Fit n ρ a → WS F M w0 w → T a w) : TD P n ops T FS MS [] ρ F M w0 Q := fun a w f s => h a w f s
theorem dQ {T : Act → World → Prop} {FS : Hp} {MS : List Chunk} {i : Nat} {l : List (Nat × Bool)} {d : Nat} {op : Op} {ty : TypeId} {pos : String} {after : Array Edge} {v : Value} (ho : ops[i]? = some ⟨some d, op, ty, pos, after, none⟩) (hd : Nat.blt d n = true)
    (hq : Qv P n op ty ρ FS MS w0 v) (hS : ∀ w, WS F M w0 w → WS FS MS w0 w) (h : TD P n ops T FS MS l ((d, v) :: ρ) F M w0 Q) : TD P n ops T FS MS ((i, true) :: l) ρ F M w0 Q := fun a w f s =>
  ⟨_, v, ho, .inl ⟨rfl, fun w' s' => hq a w' f s' _ _ _ _⟩, hS w s, h _ w (f.put hd) s⟩
theorem dQgo {T : Act → World → Prop} {FS : Hp} {MS : List Chunk} {i : Nat} {l : List (Nat × Bool)} {d j d' : Nat} {b : Bool} {op : Op} {ty : TypeId} {pos : String} {after : Array Edge} {v : Value} (ho : ops[i]? = some ⟨some d, op, ty, pos, after, some (j, b)⟩) (hd : Nat.blt d n = true)
    (hj : (ops[j]?).bind (·.dst) = some d') (hb : look ρ d' = some (.bool b))
    (hq : Qv P n op ty ρ FS MS w0 v) (hS : ∀ w, WS F M w0 w → WS FS MS w0 w) (h : TD P n ops T FS MS l ((d, v) :: ρ) F M w0 Q) : TD P n ops T FS MS ((i, true) :: l) ρ F M w0 Q := fun a w f s =>
  ⟨_, v, ho, .inl ⟨by simp [Region.wanted, yielded, hj, f.get d' _ hb], fun w' s' => hq a w' f s' _ _ _ _⟩, hS w s, h _ w (f.put hd) s⟩
theorem dQno {T : Act → World → Prop} {FS : Hp} {MS : List Chunk} {i : Nat} {l : List (Nat × Bool)} {d j d' : Nat} {b c : Bool} {op : Op} {ty : TypeId} {pos : String} {after : Array Edge} (ho : ops[i]? = some ⟨some d, op, ty, pos, after, some (j, b)⟩) (hd : Nat.blt d n = true)
    (hj : (ops[j]?).bind (·.dst) = some d') (hb : look ρ d' = some (.bool c)) (hc : (c == b) = false)
    (hS : ∀ w, WS F M w0 w → WS FS MS w0 w) (h : TD P n ops T FS MS l ((d, undef) :: ρ) F M w0 Q) : TD P n ops T FS MS ((i, true) :: l) ρ F M w0 Q := fun a w f s =>
  ⟨_, undef, ho, .inr ⟨(by simp only [Region.wanted, yielded, hj, Option.bind_some, f.get d' _ hb]; cases b <;> cases c <;> first | rfl | (cases hc)), rfl⟩, hS w s, h _ w (f.put hd) s⟩
theorem dE {T : Act → World → Prop} {FS : Hp} {MS : List Chunk} {i : Nat} {l : List (Nat × Bool)} {d : Nat} {op : Op} {ty : TypeId} {pos : String} {after : Array Edge} {Post : Value → Hp → List Chunk → Prop} (ho : ops[i]? = some ⟨some d, op, ty, pos, after, none⟩) (hd : Nat.blt d n = true)
    (he : Ef P n op ty ρ F M w0 Post) (hS : ∀ v F' M' w, Post v F' M' → WS F' M' w0 w → WS FS MS w0 w) (h : ∀ v F' M', Post v F' M' → TD P n ops T FS MS l ((d, v) :: ρ) F' M' w0 Q) : TD P n ops T FS MS ((i, false) :: l) ρ F M w0 Q := fun a w f s => by
  show wpOp P ops Q i _ a w
  unfold wpOp
  rw [ho]
  simp only [Region.wanted, if_true]
  exact .inl (he a w f s _ _ _ _ _ Q fun v F' M' w' hp hw => ⟨hS v F' M' w' hp hw, h v F' M' hp _ w' (f.put hd) hw⟩)
theorem dCase {T : Act → World → Prop} {FS : Hp} {MS : List Chunk} {l : List (Nat × Bool)} (d : Nat) {b : Bool} (hb : look ρ d = some (.bool b)) (ht : b = true → TD P n ops T FS MS l ((d, .bool true) :: ρ) F M w0 Q) (hf : b = false → TD P n ops T FS MS l ((d, .bool false) :: ρ) F M w0 Q) : TD P n ops T FS MS l ρ F M w0 Q := fun a w f s => by
  cases b
  · exact hf rfl a w (f.less (Env.le_cons hb (fun _ _ e => e))) s
  · exact ht rfl a w (f.less (Env.le_cons hb (fun _ _ e => e))) s

/-- A region that draws. -/
theorem cDraw {id : Nat} {ol : List Oper} (MS : List Chunk) (k : Nat) (l : List (Nat × Bool)) (hm : P.follows .mixedOrders = true) (hB : drawB .any ol.toArray k l = true) (hQ : ∀ c a d v w, Q (.panic c) (a.put d v) w → Q (.panic c) a w)
    (h : TD P n ol.toArray (fun a' w' => wpList P ol.toArray Q (ol.drop k) a' w') F MS l ρ F M w0 Q) : TC P n (.region id ol.toArray true) ρ F M w0 Q := fun a w f s =>
  wp_draw l hm hB hQ (h a _ f (s.ext (Ext.drew w)))
end
end Go.V
namespace Go.V
open Go.RowKit

section
variable {P : Program} {n : Nat} {ρ : Env} {F : Hp} {M : List Chunk} {w0 : World} {ty : TypeId}

/-! ### A chunk is changed -/
theorem WS.chg {w w' : World} (s : WS F M w0 w) (i : Nat) {c c' : Chunk} (hi : M[i]? = some c) (os : w'.os = w.os) (tape : w'.tape = w.tape) (output : w'.output = w.output)
    (hsz : w.heap.size ≤ w'.heap.size) (hb : ∀ k o, c.blk ≠ some k → hp w k = some o → hp w' k = some o) (hat : c'.At (hp w')) (hnew : ∀ b, c'.blk = some b → c.blk = some b ∨ w.heap.size ≤ b) : WS F (M.set i c') w0 w' := by
  have hlt : i < M.length := by
    rcases Nat.lt_or_ge i M.length with h | h
    · exact h
    · rw [List.getElem?_eq_none h] at hi; cases hi
  have hci : M[i] = c := by rw [List.getElem?_eq_getElem hlt] at hi; exact Option.some.inj hi
  have hcm : c ∈ M := hci ▸ List.getElem_mem hlt
  have other : ∀ j (hj : j < M.length), j ≠ i → ∀ b, c.blk = some b → M[j].blk ≠ some b := fun j hj hne b hcb hjb => by
    have hp' := List.pairwise_iff_getElem.1 s.apart
    rcases Nat.lt_or_ge j i with h | h
    · exact hp' j i hj hlt h b hjb (hci ▸ hcb)
    · exact hp' i j hlt hj (by omega) b (hci ▸ hcb) hjb
  have old : ∀ d ∈ M, ∀ b, d.blk = some b → b < w.heap.size := fun d hd b hb => by
    obtain ⟨o, h1, _⟩ := s.at_ d hd b hb
    exact hp_lt h1
  refine ⟨fun k o e => hb k o (fun hk => ?_) (s.sub k o e), fun d hd => ?_, fun d hd b hdb => ?_, List.pairwise_iff_getElem.2 fun j k hj hk hjk b h1 h2 => ?_, os.trans s.os, tape.trans s.tape, output.trans s.output, Nat.le_trans s.size hsz⟩
  · rw [s.off c hcm k hk] at e; cases e
  · obtain ⟨j, hj, rfl⟩ := List.mem_iff_getElem.1 hd
    rw [List.getElem_set]
    split
    · exact hat
    · rename_i hne
      have hj' : j < M.length := by simpa using hj
      intro b hdb
      obtain ⟨o, h1, h2⟩ := s.at_ M[j] (List.getElem_mem hj') b hdb
      exact ⟨o, hb b o (fun hcb => other j hj' (Ne.symm hne) b hcb hdb) h1, h2⟩
  · obtain ⟨j, hj, rfl⟩ := List.mem_iff_getElem.1 hd
    rw [List.getElem_set] at hdb
    split at hdb
    · rcases hnew b hdb with h | h
      · exact s.off c hcm b h
      · cases hF : F b with
        | none => rfl
        | some o => exact absurd (hp_lt (s.sub b o hF)) (by omega)
    · exact s.off _ (List.getElem_mem (by simpa using hj)) b hdb
  · have hj' : j < M.length := by simpa using hj
    have hk' : k < M.length := by simpa using hk
    rw [List.getElem_set] at h1 h2
    split at h1
    · rename_i hij
      rw [if_neg (by omega)] at h2
      rcases hnew b h1 with h | h
      · exact other k hk' (by omega) b h h2
      · have := old _ (List.getElem_mem hk') b h2; omega
    · split at h2
      · rename_i hne hik
        rcases hnew b h2 with h | h
        · exact other j hj' (by omega) b h h1
        · have := old _ (List.getElem_mem hj') b h1; omega
      · exact List.pairwise_iff_getElem.1 s.apart j k hj' hk' hjk b h1 h2

/-! ### New blocks -/
theorem eBox {e : TypeId} {x : Operand} {v : Value} (hx : evl ρ x = some v) : Ef P n (.box e x) ty ρ F M w0 (fun u F' M' => ∃ b, u = .pointer (some ⟨b, 0, none⟩) ∧ F' = F ∧ M' = blk b v.cells.toList e :: M) := fun a w f s dst pos after guard K Q h => by
  show Oper.upon P _ a K Q ((execOp a.eval ⟨dst, .box e x, ty, pos, after, guard⟩).run P w)
  have : (execOp a.eval ⟨dst, .box e x, ty, pos, after, guard⟩).run P w = .ok (.value (.pointer (some ⟨w.heap.size, 0, none⟩))) (w.alloc (.cells v.cells e)) := by
    simp [execOp, f.eval hx, Instr.box, newVar, newRow]
  rw [this]
  refine h _ _ _ _ ⟨_, rfl, rfl, rfl⟩ ?_
  have := s.alloc (.cells v.cells e)
  simpa [blk] using this
theorem eAlloc {e : TypeId} {z : Value} (hz : ∀ w, (zeroValue e).run P w = .ok z w) : Ef P n (.alloc e) ty ρ F M w0 (fun u F' M' => ∃ b, u = .pointer (some ⟨b, 0, none⟩) ∧ F' = F ∧ M' = blk b z.cells.toList e :: M) := fun a w f s dst pos after guard K Q h => by
  show Oper.upon P _ a K Q ((execOp a.eval ⟨dst, .alloc e, ty, pos, after, guard⟩).run P w)
  have : (execOp a.eval ⟨dst, .alloc e, ty, pos, after, guard⟩).run P w = .ok (.value (.pointer (some ⟨w.heap.size, 0, none⟩))) (w.alloc (.cells z.cells e)) := by
    simp [execOp, Instr.alloc, newVar, newRow, hz]
  rw [this]
  refine h _ _ _ _ ⟨_, rfl, rfl, rfl⟩ ?_
  have := s.alloc (.cells z.cells e)
  simpa [blk] using this
/-- `box` and `alloc` in a row of operations. -/
theorem tBox {ops : Array Oper} {Q : Exit → Act → World → Prop} {d : Nat} {pos : String} {after : Array Edge} {rest : List Oper} {e : TypeId} {x : Operand} {v : Value} {cs : List Value} (hd : Nat.blt d n = true) (hx : evl ρ x = some v) (hc : v.cells.toList = cs)
    (h : ∀ b, TL P n ops rest ((d, .pointer (some ⟨b, 0, none⟩)) :: ρ) F (blk b cs e :: M) w0 Q) : TL P n ops (⟨some d, .box e x, ty, pos, after, none⟩ :: rest) ρ F M w0 Q :=
  tE hd (eBox hx) fun _ _ _ ⟨b, h1, h2, h3⟩ => by subst h1; subst h2; subst h3; subst hc; exact h b
theorem tAlloc {ops : Array Oper} {Q : Exit → Act → World → Prop} {d : Nat} {pos : String} {after : Array Edge} {rest : List Oper} {e : TypeId} {z : Value} {cs : List Value} (hd : Nat.blt d n = true) (hz : ∀ w, (zeroValue e).run P w = .ok z w) (hc : z.cells.toList = cs)
    (h : ∀ b, TL P n ops rest ((d, .pointer (some ⟨b, 0, none⟩)) :: ρ) F (blk b cs e :: M) w0 Q) : TL P n ops (⟨some d, .alloc e, ty, pos, after, none⟩ :: rest) ρ F M w0 Q :=
  tE hd (eAlloc hz) fun _ _ _ ⟨b, h1, h2, h3⟩ => by subst h1; subst h2; subst h3; subst hc; exact h b

/-- The cells of so many zeros. -/
def zcells (z : List Value) (c : Nat) : List Value := (List.replicate c z).flatten
theorem zcells_len (z : List Value) (c : Nat) : (zcells z c).length = c * z.length := by simp [zcells]
theorem zcells_one (z : Value) (c : Nat) : zcells [z] c = List.replicate c z := by
  induction c with
  | zero => rfl
  | succ c ih => simp only [zcells, List.replicate_succ, List.flatten_cons] at *; rw [ih]; rfl
theorem zcells_arr (zl : Array Value) (sz : Nat) (hs : zl.size = sz) : ∀ c, ((Array.range (c * sz)).map (zl[· % zl.size]!)) = (zcells zl.toList c).toArray := by
  intro c
  apply Array.toList_inj.1
  rw [hs]
  apply List.ext_getElem?
  intro i
  have hlen : (zcells zl.toList c).length = c * sz := by rw [zcells_len, Array.length_toList, hs]
  have key : ∀ c i, i < c * sz → (zcells zl.toList c)[i]? = some zl[i % sz]! := by
    intro c
    induction c with
    | zero => intro i hi; omega
    | succ c ih =>
      intro i hi
      have hsz : 0 < sz := by
        rcases Nat.eq_zero_or_pos sz with h | h
        · subst h; omega
        · exact h
      have e1 : zcells zl.toList (c + 1) = zl.toList ++ zcells zl.toList c := by simp [zcells, List.replicate_succ]
      rw [e1]
      have hl : zl.toList.length = sz := by rw [Array.length_toList, hs]
      rcases Nat.lt_or_ge i sz with h | h
      · rw [List.getElem?_append_left (by omega), Nat.mod_eq_of_lt h]
        have : i < zl.size := by omega
        simp [this]
      · rw [List.getElem?_append_right (by omega), hl]
        rw [ih (i - sz) (by rw [Nat.add_mul] at hi; omega)]
        rw [Nat.mod_eq_sub_mod h]
  rcases Nat.lt_or_ge i (c * sz) with h | h
  · rw [key c i h]
    simp [h]
  · rw [List.getElem?_eq_none (by simpa using h), List.getElem?_eq_none (by simp only [List.length_map, hlen]; exact h)]


/-! ### What `fill` makes, on lists -/
def cellsL : Value → List Value
  | .agg cs => cs.toList
  | v => [v]
theorem cellsL_eq (v : Value) : v.cells = (cellsL v).toArray := by cases v <;> rfl
def putL : List Value → Nat → List Value → List Value
  | cs, _, [] => cs
  | [], _, _ => []
  | _ :: cs, 0, v :: vs => v :: putL cs 0 vs
  | c :: cs, o + 1, vs => c :: putL cs o vs
def fillL (lay : Nat → Option (Nat × Nat)) : List Value → List (Nat × Value) → Option (List Value)
  | cs, [] => some cs
  | cs, (i, v) :: rest => match lay i with
    | none => none
    | some (off, size) => match Nat.beq (cellsL v).length size && Nat.ble (off + (cellsL v).length) cs.length with
      | true => fillL lay (putL cs off (cellsL v)) rest
      | false => none
theorem putL_len : ∀ (cs : List Value) (o : Nat) (vs : List Value), (putL cs o vs).length = cs.length
  | cs, o, [] => by cases cs <;> cases o <;> rfl
  | [], o, v :: vs => by cases o <;> rfl
  | c :: cs, 0, v :: vs => by simp [putL, putL_len cs 0 vs]
  | c :: cs, o + 1, v :: vs => by simp [putL, putL_len cs o (v :: vs)]
theorem putL_set : ∀ (cs : List Value) (o : Nat) (v : Value) (vs : List Value), putL cs o (v :: vs) = putL (cs.set o v) (o + 1) vs
  | [], o, v, vs => by cases vs <;> cases o <;> rfl
  | c :: cs, 0, v, vs => by cases vs <;> simp [putL]
  | c :: cs, o + 1, v, vs => by cases vs <;> simp [putL, putL_set cs o]
theorem put_foldl : ∀ (vs : List Value) (k : Nat) (cs : List Value) (off : Nat), (vs.zipIdx k).foldl (fun (cs : Array Value) (p : Value × Nat) => cs.setIfInBounds (off + p.2) p.1) cs.toArray = (putL cs (off + k) vs).toArray
  | [], k, cs, off => by cases cs <;> simp [putL]
  | v :: vs, k, cs, off => by
    rw [putL_set]
    simp only [List.zipIdx_cons, List.foldl_cons, List.setIfInBounds_toArray]
    exact put_foldl vs (k + 1) _ off
theorem fillL_sound {lay : Nat → Option (Nat × Nat)} : ∀ {vs : List (Nat × Value)} {cells cs : List Value}, fillL lay cells vs = some cs → Instr.fill lay cells.toArray vs = some cs.toArray
  | [], cells, cs, h => by simp only [fillL] at h; cases h; rfl
  | (i, v) :: rest, cells, cs, h => by
    simp only [fillL] at h
    unfold Instr.fill
    split at h
    · cases h
    · rename_i off size hl
      rw [hl]
      split at h
      · rename_i hb
        simp only [Bool.and_eq_true, Nat.ble_eq] at hb
        obtain ⟨hb1, hb2⟩ := hb
        have hb1 := Nat.eq_of_beq_eq_true hb1
        have h1 : v.cells.size = (cellsL v).length := by rw [cellsL_eq]; simp
        have h2 : ¬ ((decide (v.cells.size ≠ size) || decide (off + v.cells.size > cells.toArray.size)) = true) := by
          rw [h1]; simp only [List.size_toArray, Bool.or_eq_true, decide_eq_true_eq]; omega
        simp only [ne_eq] at h2 ⊢
        rw [if_neg h2]
        have h3 : v.cells.zipIdx.foldl (fun cs (c, j) => cs.setIfInBounds (off + j) c) cells.toArray = (putL cells off (cellsL v)).toArray := by
          rw [cellsL_eq, ← Array.foldl_toList]
          have := put_foldl (cellsL v) 0 cells off
          simpa using this
        rw [h3]
        exact fillL_sound h
      · cases h

/-! ### Structs and slices that are built -/
theorem evl_parts {a : Act} (f : Fit n ρ a) : ∀ (ps : List (Nat × Operand)) (vs : List (Nat × Value)), evlP ρ ps = some vs → ps.map (fun p => (p.1, a.eval p.2)) = vs := by
  intro ps
  induction ps with
  | nil => intro vs h; simpa [evlP] using h
  | cons p ps ih =>
    intro vs h
    obtain ⟨i, x⟩ := p
    simp only [evlP] at h
    split at h
    · rename_i v vs' hv hvs'
      cases h
      simp [f.eval hv, ih vs' hvs']
    · cases h
theorem evl_args {a : Act} (f : Fit n ρ a) : ∀ (ps : List Operand) (vs : List Value), evls ρ ps = some vs → ps.map a.eval = vs := by
  intro ps
  induction ps with
  | nil => intro vs h; simpa [evls] using h
  | cons p ps ih =>
    intro vs h
    simp only [evls] at h
    split at h
    · rename_i v vs' hv hvs'
      cases h
      simp [f.eval hv, ih vs' hvs']
    · cases h

/-- A struct out of its parts: what `fill` makes of the zero value's cells. -/
theorem qBuild {t : TypeId} {parts : Array (Nat × Operand)} {vs : List (Nat × Value)} {cs : Array Value} (hb : ∀ (l : List (Nat × Value)) w, l = vs → (Instr.build t l.toArray).run P w = .ok (.agg cs) w) (hp : evlP ρ parts.toList = some vs) :
    Qv P n (.build t parts) ty ρ F M w0 (.agg cs) := fun a w f _ dst pos after guard => by
  have e : (parts.map fun p => (p.1, a.eval p.2)) = vs.toArray := Array.toList_inj.1 (by rw [Array.toList_map, evl_parts f _ _ hp])
  simp only [execOp]
  rw [show (parts.map fun x => match x with | (i, x) => (i, a.eval x)) = (parts.map fun p => (p.1, a.eval p.2)) from rfl, e]
  simp [hb vs w rfl]
/-- A slice out of its parts: a new block. -/
theorem eBuildSlice {t e : TypeId} {len sz : Nat} {parts : Array (Nat × Operand)} {vs : List (Nat × Value)} {cs : List Value} {z : Value} (ht : ∀ w, (underlying t).run P w = .ok (.slice e) w) (hz : ∀ w, (sizeOf e).run P w = .ok sz w) (hzv : ∀ w, (zeroValue e).run P w = .ok z w) (hn : Nat.ble (len * sz) 4096 = true)
    (hp : evlP ρ parts.toList = some vs)
    (hzs : z.cells.size = sz) (hf' : fillL (fun i => some (i * sz, sz)) (zcells z.cells.toList len) vs = some cs) :
    Ef P n (.buildSlice t len parts) ty ρ F M w0 (fun u F' M' => ∃ b, u = .slice (some ⟨b, 0, none⟩) len len ∧ F' = F ∧ M' = blk b cs e :: M) := fun a w f s dst pos after guard K Q h => by
  have ep : (parts.map fun p => (p.1, a.eval p.2)) = vs.toArray := Array.toList_inj.1 (by rw [Array.toList_map, evl_parts f _ _ hp])
  show Oper.upon P _ a K Q ((execOp a.eval ⟨dst, .buildSlice t len parts, ty, pos, after, guard⟩).run P w)
  have hf : Instr.fill (fun i => some (i * sz, sz)) ((Array.range (len * sz)).map (z.cells[· % z.cells.size]!)) vs = some cs.toArray := by rw [zcells_arr z.cells sz hzs len]; exact fillL_sound hf'
  have hn' : ¬ (len * sz > 2 ^ 24) := by have : len * sz ≤ 4096 := by simpa [Nat.ble_eq] using hn
                                         omega
  have : (execOp a.eval ⟨dst, .buildSlice t len parts, ty, pos, after, guard⟩).run P w = .ok (.value (.slice (some ⟨w.heap.size, 0, none⟩) len len)) (w.alloc (.cells cs.toArray e)) := by
    simp only [execOp]
    rw [show (parts.map fun x => match x with | (i, x) => (i, a.eval x)) = (parts.map fun p => (p.1, a.eval p.2)) from rfl, ep]
    simp only [Instr.buildSlice, Sem.run_bind, ht, hz, Result.andThen_ok, Sem.run_ite, if_neg hn']
    by_cases h0 : len * sz = 0
    · rw [if_pos h0]
      rw [h0] at hf
      simp only [Sem.run_pure, Result.andThen_ok, h0] at hf ⊢
      simp only [Array.range, Array.ofFn_zero, List.map_toArray, List.map_nil] at hf ⊢
      simp [hf, newRow]
    · rw [if_neg h0]
      simp [hzv, hf, newRow]
  rw [this]
  refine h _ _ _ _ ⟨_, rfl, rfl, rfl⟩ ?_
  simpa [blk] using s.alloc (.cells cs.toArray e)
theorem tBuildSlice {ops : Array Oper} {Q : Exit → Act → World → Prop} {d : Nat} {pos : String} {after : Array Edge} {rest : List Oper} {t e : TypeId} {len sz : Nat} {parts : Array (Nat × Operand)} {vs : List (Nat × Value)} {cs : List Value} {z : Value} (hd : Nat.blt d n = true) (ht : ∀ w, (underlying t).run P w = .ok (.slice e) w) (hz : ∀ w, (sizeOf e).run P w = .ok sz w) (hzv : ∀ w, (zeroValue e).run P w = .ok z w) (hn : Nat.ble (len * sz) 4096 = true)
    (hp : evlP ρ parts.toList = some vs)
    (hzs : z.cells.size = sz) (hf' : fillL (fun i => some (i * sz, sz)) (zcells z.cells.toList len) vs = some cs)
    (h : ∀ b, TL P n ops rest ((d, .slice (some ⟨b, 0, none⟩) len len) :: ρ) F (blk b cs e :: M) w0 Q) : TL P n ops (⟨some d, .buildSlice t len parts, ty, pos, after, none⟩ :: rest) ρ F M w0 Q :=
  tE hd (eBuildSlice ht hz hzv hn hp hzs hf') fun _ _ _ ⟨b, h1, h2, h3⟩ => by subst h1; subst h2; subst h3; exact h b

/-! ### Stores into a block that is owned -/
theorem run_storeCells (P : Program) (b o : Nat) (e : TypeId) : ∀ (vs : List Value) (i : Nat) (w : World) (cs : List Value), hp w b = some (.cells cs.toArray e (0, 0)) → o + i + vs.length ≤ cs.length → (∀ v ∈ vs, v.oneCell' = true) →
    ∃ w', (storeCells ⟨b, o, none⟩ vs i).run P w = .ok () w' ∧ hp w' b = some (.cells (cs.take (o + i) ++ vs ++ cs.drop (o + i + vs.length)).toArray e (0, 0)) ∧ (∀ k, k ≠ b → hp w' k = hp w k) ∧ w'.os = w.os ∧ w'.tape = w.tape ∧ w'.output = w.output ∧ w'.heap.size = w.heap.size
  | [], i, w, cs, hb, hl, _ => ⟨w, by simp [storeCells], by simpa using hb, fun _ _ => rfl, rfl, rfl, rfl, rfl⟩
  | v :: vs, i, w, cs, hb, hl, h1 => by
    have ha : (⟨b, o, none⟩ : Addr).add i = ⟨b, o + i, none⟩ := by unfold Addr.add; split <;> simp_all
    have hlt : o + i < cs.length := by simp at hl; omega
    have hb' : w.heap[b]? = some (.cells cs.toArray e (0, 0)) := hb
    have hc : w.cell? ⟨b, o + i, none⟩ = some cs[o + i] := by simp [World.cell?, hb', hlt]
    have hf : w.frozen? ⟨b, o + i, none⟩ = false := by simp [World.frozen?, hb']
    have hw1 : hp (w.setCell ⟨b, o + i, none⟩ v) b = some (.cells (cs.set (o + i) v).toArray e (0, 0)) := by
      show (w.setCell ⟨b, o + i, none⟩ v).heap[b]? = _
      simp only [World.setCell, Array.getElem?_modify, if_true, hb', Option.map_some]
      simp
    obtain ⟨w', r1, r2, r3, r4, r5, r6, r7⟩ := run_storeCells P b o e vs (i + 1) (w.setCell ⟨b, o + i, none⟩ v) (cs.set (o + i) v) hw1 (by simp at hl ⊢; omega) (fun u hu => h1 u (.tail _ hu))
    refine ⟨w', ?_, ?_, fun k hk => ?_, r4, r5, r6, by rw [r7]; simp⟩
    · simp only [storeCells, Sem.run_bind, ha]
      have hs : (store ⟨b, o + i, none⟩ v).run P w = .ok () (w.setCell ⟨b, o + i, none⟩ v) := by
        have hv := h1 v (.head _)
        cases v <;> simp_all [store, Sem.run, Value.oneCell']
      rw [hs, Result.andThen_ok, r1]
    · rw [r2]
      congr 3
      rw [show o + (i + 1) = (o + i) + 1 by omega, List.take_set, List.drop_set]
      rw [if_pos (by omega)]
      rw [List.take_add_one, List.getElem?_eq_getElem hlt]
      rw [List.set_append_right _ _ (by simp; omega)]
      have e1 : o + i + 1 + vs.length = o + i + (v :: vs).length := by simp only [List.length_cons]; omega
      rw [e1]
      simp [Nat.min_eq_left (Nat.le_of_lt hlt)]
    · rw [r3 k hk]
      exact Below.heap_setCell w _ _ k hk

theorem eStore1 {t : TypeId} {x y : Operand} (i : Nat) {b o : Nat} {cs : List Value} {e : TypeId} {v : Value} (hz : ∀ w, (sizeOf t).run P w = .ok 1 w) (hx : evl ρ x = some (.pointer (some ⟨b, o, none⟩))) (hy : evl ρ y = some v) (h1 : v.oneCell' = true) (hm : M[i]? = some (blk b cs e)) (hl : o < cs.length) :
    Ef P n (.store t x y) ty ρ F M w0 (fun _ F' M' => F' = F ∧ M' = M.set i (blk b (cs.set o v) e)) := fun a w f s dst pos after guard K Q h => by
  obtain ⟨_, hb, rfl⟩ := s.get i hm b rfl
  have hcells : v.cells = #[v] := by cases v <;> simp_all [Value.cells, Value.oneCell']
  obtain ⟨w', r1, r2, r3, r4, r5, r6, r7⟩ := run_storeCells P b o e [v] 0 w cs hb (by simp; omega) (by simpa using h1)
  show Oper.upon P _ a K Q ((execOp a.eval ⟨dst, .store t x y, ty, pos, after, guard⟩).run P w)
  have : (execOp a.eval ⟨dst, .store t x y, ty, pos, after, guard⟩).run P w = .ok .skip w' := by
    simp [execOp, f.eval hx, f.eval hy, Instr.storeAt, Instr.sureAddr, storeVar, hcells, hz, r1]
  rw [this]
  refine h _ _ _ _ ⟨rfl, rfl⟩ (s.chg i hm r4 r5 r6 (by rw [r7]; exact Nat.le_refl _) (fun k o' hk he => by rw [r3 k (fun e => hk (by rw [e]; rfl))]; exact he) ?_ (fun b' hb' => .inl hb'))
  intro b' hb'
  cases hb'
  refine ⟨_, r2, ?_⟩
  simp only [Nat.add_zero, List.length_singleton]
  congr 2
  rw [List.set_eq_take_append_cons_drop, if_pos hl]
  simp
theorem tStore1 {ops : Array Oper} {Q : Exit → Act → World → Prop} {pos : String} {after : Array Edge} {rest : List Oper} {t : TypeId} {x y : Operand} (i : Nat) {b o : Nat} {cs : List Value} {e : TypeId} {v : Value} (hz : ∀ w, (sizeOf t).run P w = .ok 1 w) (hx : evl ρ x = some (.pointer (some ⟨b, o, none⟩))) (hy : evl ρ y = some v) (h1 : v.oneCell' = true) (hm : M[i]? = some (blk b cs e)) (hl : o < cs.length)
    (h : TL P n ops rest ρ F (M.set i (blk b (cs.set o v) e)) w0 Q) : TL P n ops (⟨none, .store t x y, ty, pos, after, none⟩ :: rest) ρ F M w0 Q :=
  tE0 (eStore1 i hz hx hy h1 hm hl) fun _ _ _ ⟨h2, h3⟩ => by subst h2; subst h3; exact h
theorem eStoreN {t : TypeId} {x y : Operand} (i : Nat) {b o k : Nat} {cs vs : List Value} {e : TypeId} (hz : ∀ w, (sizeOf t).run P w = .ok k w) (hx : evl ρ x = some (.pointer (some ⟨b, o, none⟩))) (hy : evl ρ y = some (.agg vs.toArray)) (hk : vs.length = k) (h1 : ∀ v ∈ vs, v.oneCell' = true) (hm : M[i]? = some (blk b cs e)) (hl : o + k ≤ cs.length) :
    Ef P n (.store t x y) ty ρ F M w0 (fun _ F' M' => F' = F ∧ M' = M.set i (blk b (cs.take o ++ vs ++ cs.drop (o + k)) e)) := fun a w f s dst pos after guard K Q h => by
  obtain ⟨_, hb, rfl⟩ := s.get i hm b rfl
  subst hk
  obtain ⟨w', r1, r2, r3, r4, r5, r6, r7⟩ := run_storeCells P b o e vs 0 w cs hb (by omega) h1
  show Oper.upon P _ a K Q ((execOp a.eval ⟨dst, .store t x y, ty, pos, after, guard⟩).run P w)
  have : (execOp a.eval ⟨dst, .store t x y, ty, pos, after, guard⟩).run P w = .ok .skip w' := by
    simp [execOp, f.eval hx, f.eval hy, Instr.storeAt, Instr.sureAddr, storeVar, Value.cells, hz, r1]
  rw [this]
  refine h _ _ _ _ ⟨rfl, rfl⟩ (s.chg i hm r4 r5 r6 (by rw [r7]; exact Nat.le_refl _) (fun k o' hk he => by rw [r3 k (fun e => hk (by rw [e]; rfl))]; exact he) ?_ (fun b' hb' => .inl hb'))
  intro b' hb'
  cases hb'
  exact ⟨_, r2, rfl⟩
theorem tStoreN {ops : Array Oper} {Q : Exit → Act → World → Prop} {pos : String} {after : Array Edge} {rest : List Oper} {t : TypeId} {x y : Operand} (i : Nat) {b o k : Nat} {cs vs : List Value} {e : TypeId} (hz : ∀ w, (sizeOf t).run P w = .ok k w) (hx : evl ρ x = some (.pointer (some ⟨b, o, none⟩))) (hy : evl ρ y = some (.agg vs.toArray)) (hk : vs.length = k) (h1 : ∀ v ∈ vs, v.oneCell' = true) (hm : M[i]? = some (blk b cs e)) (hl : o + k ≤ cs.length)
    (h : TL P n ops rest ρ F (M.set i (blk b (cs.take o ++ vs ++ cs.drop (o + k)) e)) w0 Q) : TL P n ops (⟨none, .store t x y, ty, pos, after, none⟩ :: rest) ρ F M w0 Q :=
  tE0 (eStoreN i hz hx hy hk h1 hm hl) fun _ _ _ ⟨h2, h3⟩ => by subst h2; subst h3; exact h

/-! ### Calls -/
theorem eCall {f : FuncId} {cl : Operand} {args : Array Operand} {ts : Array TypeId} {vs first captured : List Value} {R : Value → World → Prop} (hcall : ∀ (a : Array Value) w, (callFunc f a).run P w = .ok (.enter f a) w)
    (hcl : evl ρ cl = some (.func (.func f) first.toArray captured.toArray)) (ha : evls ρ args.toList = some vs)
    (hC : ∀ w, WS F M w0 w → Calls P f (first ++ vs ++ captured).toArray w (fun e w' => ∃ v, e = .returned v ∧ R v w')) {Post : Value → Hp → List Chunk → Prop} (hR : ∀ w v w', WS F M w0 w → R v w' → ∃ F' M', Post v F' M' ∧ WS F' M' w0 w') :
    Ef P n (.call { callee := .value cl, args := args, argTypes := ts }) ty ρ F M w0 Post := fun a w f' s dst pos after guard K Q h => by
  show Oper.upon P _ a K Q ((execOp a.eval ⟨dst, .call { callee := .value cl, args := args, argTypes := ts }, ty, pos, after, guard⟩).run P w)
  have e : args.map a.eval = vs.toArray := Array.toList_inj.1 (by rw [Array.toList_map, evl_args f' _ _ ha])
  have : (execOp a.eval ⟨dst, .call { callee := .value cl, args := args, argTypes := ts }, ty, pos, after, guard⟩).run P w = .ok (.enter f (first ++ vs ++ captured).toArray) w := by
    simp only [execOp, resolve, e, f'.eval hcl, Deferred.ofValue]
    simp only [Sem.run_bind, Sem.run_pure, Result.andThen_ok, invoke, hcall]
    simp
  rw [this]
  refine (hC w s).mono fun e w' ⟨v, he, hr⟩ => ?_
  subst he
  obtain ⟨F', M', hp, hw⟩ := hR w v w' s hr
  exact h v F' M' w' hp hw

/-- A callee that leaves all as it is, and whose answer is known. -/
theorem eCallQ {f : FuncId} {cl : Operand} {args : Array Operand} {ts : Array TypeId} {vs first captured : List Value} {v : Value} (hcall : ∀ (a : Array Value) w, (callFunc f a).run P w = .ok (.enter f a) w)
    (hcl : evl ρ cl = some (.func (.func f) first.toArray captured.toArray)) (ha : evls ρ args.toList = some vs)
    (hC : ∀ w, WS F M w0 w → Calls P f (first ++ vs ++ captured).toArray w (fun e w' => e = .returned v ∧ Ext w w')) :
    Ef P n (.call { callee := .value cl, args := args, argTypes := ts }) ty ρ F M w0 (fun u F' M' => u = v ∧ F' = F ∧ M' = M) := fun a w f' s dst pos after guard K Q h => by
  show Oper.upon P _ a K Q ((execOp a.eval ⟨dst, .call { callee := .value cl, args := args, argTypes := ts }, ty, pos, after, guard⟩).run P w)
  have e : args.map a.eval = vs.toArray := Array.toList_inj.1 (by rw [Array.toList_map, evl_args f' _ _ ha])
  have : (execOp a.eval ⟨dst, .call { callee := .value cl, args := args, argTypes := ts }, ty, pos, after, guard⟩).run P w = .ok (.enter f (first ++ vs ++ captured).toArray) w := by
    simp only [execOp, resolve, e, f'.eval hcl, Deferred.ofValue]
    simp only [Sem.run_bind, Sem.run_pure, Result.andThen_ok, invoke, hcall]
    simp
  rw [this]
  refine (hC w s).mono fun e w' ⟨he, hx⟩ => ?_
  subst he
  exact h _ _ _ _ ⟨rfl, rfl, rfl⟩ (s.ext hx)
theorem tCallQ {ops : Array Oper} {Q : Exit → Act → World → Prop} {d : Nat} {pos : String} {after : Array Edge} {rest : List Oper} {f : FuncId} {cl : Operand} {args : Array Operand} {ts : Array TypeId} {vs first captured : List Value} {v : Value} (hd : Nat.blt d n = true) (hcall : ∀ (a : Array Value) w, (callFunc f a).run P w = .ok (.enter f a) w)
    (hcl : evl ρ cl = some (.func (.func f) first.toArray captured.toArray)) (ha : evls ρ args.toList = some vs)
    (hC : ∀ w, WS F M w0 w → Calls P f (first ++ vs ++ captured).toArray w (fun e w' => e = .returned v ∧ Ext w w'))
    (h : TL P n ops rest ((d, v) :: ρ) F M w0 Q) : TL P n ops (⟨some d, .call { callee := .value cl, args := args, argTypes := ts }, ty, pos, after, none⟩ :: rest) ρ F M w0 Q :=
  tE hd (eCallQ hcall hcl ha hC) fun _ _ _ ⟨h1, h2, h3⟩ => by subst h1; subst h2; subst h3; exact h
/-- A callee that answers something new. -/
theorem tCallF {ops : Array Oper} {Q : Exit → Act → World → Prop} {d : Nat} {pos : String} {after : Array Edge} {rest : List Oper} {f : FuncId} {cl : Operand} {args : Array Operand} {ts : Array TypeId} {vs first captured : List Value} {Φ : Value → Hp → Prop} (hd : Nat.blt d n = true) (hcall : ∀ (a : Array Value) w, (callFunc f a).run P w = .ok (.enter f a) w)
    (hcl : evl ρ cl = some (.func (.func f) first.toArray captured.toArray)) (ha : evls ρ args.toList = some vs) (hmono : ∀ v h h', Sub h h' → Φ v h → Φ v h')
    (hC : ∀ w, WS F M w0 w → Calls P f (first ++ vs ++ captured).toArray w (fun e w' => ∃ v, e = .returned v ∧ Ext w w' ∧ ∃ h', Fresh w w' h' ∧ Φ v h'))
    (h : ∀ v F', Sub F F' → Φ v (from_ w0.heap.size F') → TL P n ops rest ((d, v) :: ρ) F' M w0 Q) : TL P n ops (⟨some d, .call { callee := .value cl, args := args, argTypes := ts }, ty, pos, after, none⟩ :: rest) ρ F M w0 Q := fun a w f' s =>
  wpList_plain rfl fun K hK => by
    show Oper.upon P _ a K Q ((execOp a.eval ⟨some d, .call { callee := .value cl, args := args, argTypes := ts }, ty, pos, after, none⟩).run P w)
    have e : args.map a.eval = vs.toArray := Array.toList_inj.1 (by rw [Array.toList_map, evl_args f' _ _ ha])
    have : (execOp a.eval ⟨some d, .call { callee := .value cl, args := args, argTypes := ts }, ty, pos, after, none⟩).run P w = .ok (.enter f (first ++ vs ++ captured).toArray) w := by
      simp only [execOp, resolve, e, f'.eval hcl, Deferred.ofValue]
      simp only [Sem.run_bind, Sem.run_pure, Result.andThen_ok, invoke, hcall]
      simp
    rw [this]
    refine (hC w s).mono fun e w' ⟨v, he, hx, h', hf, hΦ⟩ => ?_
    subst he
    obtain ⟨s', s1, s2⟩ := s.fresh hx hf
    exact hK _ _ (h v _ s1 (hmono v _ _ s2 hΦ) _ w' (f'.put hd) s')
/-- The general case: the callee's post, and what it makes of the class. -/
theorem tCallG {ops : Array Oper} {Q : Exit → Act → World → Prop} {d : Nat} {pos : String} {after : Array Edge} {rest : List Oper} {f : FuncId} {cl : Operand} {args : Array Operand} {ts : Array TypeId} {vs first captured : List Value} {Post : Value → Hp → List Chunk → Prop} (hd : Nat.blt d n = true) (hcall : ∀ (a : Array Value) w, (callFunc f a).run P w = .ok (.enter f a) w)
    (hcl : evl ρ cl = some (.func (.func f) first.toArray captured.toArray)) (ha : evls ρ args.toList = some vs)
    (hC : ∀ w, WS F M w0 w → Calls P f (first ++ vs ++ captured).toArray w (fun e w' => ∃ v, e = .returned v ∧ ∃ F' M', Post v F' M' ∧ WS F' M' w0 w'))
    (h : ∀ v F' M', Post v F' M' → TL P n ops rest ((d, v) :: ρ) F' M' w0 Q) : TL P n ops (⟨some d, .call { callee := .value cl, args := args, argTypes := ts }, ty, pos, after, none⟩ :: rest) ρ F M w0 Q :=
  tE hd (eCall (R := fun v w' => ∃ F' M', Post v F' M' ∧ WS F' M' w0 w') hcall hcl ha hC fun _ _ _ _ hr => hr) h
end
end Go.V
namespace Go.V
open Go.RowKit

/-! ### A row of the call's own: at no address, or at the head of a block -/
abbrev rowV (A : Option Nat) (n cap : Nat) : Value := .slice (A.map fun b => ⟨b, 0, none⟩) n cap
/-- What the row holds up to its length: `xs`, cell by cell; then spare room. -/
def row (A : Option Nat) (cap : Nat) (e : TypeId) (sz : Nat) (xs : List Value) : Chunk :=
  ⟨A, fun o => ∃ spare, o = .cells (xs ++ spare).toArray e (0, 0) ∧ (xs ++ spare).length = cap * sz⟩

theorem nextcap_le (need cap : Nat) (h : cap < need) : Builtin.nextslicecap need cap ≤ 2 * need + 200 := by
  unfold Builtin.nextslicecap
  split
  · omega
  · split
    · omega
    · have key : ∀ r c, c ≤ 2 * need + 200 → Builtin.growBy need r c ≤ 2 * need + 200 := by
        intro r
        induction r with
        | zero => intro c hc; exact hc
        | succ r ih =>
          intro c hc
          unfold Builtin.growBy
          split
          · exact hc
          · exact ih _ (by omega)
      exact key 4 cap (by omega)

theorem row_at {w : World} {A : Option Nat} {cap : Nat} {e : TypeId} {sz : Nat} {xs : List Value} (h : (row A cap e sz xs).At (hp w)) {b : Nat} (hb : A = some b) : ∃ spare, hp w b = some (.cells (xs ++ spare).toArray e (0, 0)) ∧ (xs ++ spare).length = cap * sz := by
  obtain ⟨o, h1, sp, rfl, h2⟩ := h b hb
  exact ⟨sp, h1, h2⟩
theorem row_atN {h : Hp} {b cap : Nat} {e : TypeId} {sz : Nat} {xs : List Value} (hr : (row (some b) cap e sz xs).At h) {o k : Nat} (hk : o + k ≤ xs.length) : atN h b o k = some ((xs.drop o).take k) := by
  obtain ⟨_, h1, sp, rfl, h2⟩ := hr b rfl
  simp only [atN, h1, List.size_toArray, List.length_append]
  rw [if_pos (by omega)]
  congr 1
  rw [List.drop_append, List.take_append]
  have e1 : k - (List.drop o xs).length = 0 := by rw [List.length_drop]; omega
  rw [e1]
  simp
theorem row_at1 {h : Hp} {b cap : Nat} {e : TypeId} {sz : Nat} {xs : List Value} (hr : (row (some b) cap e sz xs).At h) {o : Nat} {v : Value} (hv : xs[o]? = some v) : at1 h b o = some v := by
  obtain ⟨_, h1, sp, rfl, h2⟩ := hr b rfl
  have : o < xs.length := (List.getElem?_eq_some_iff.1 hv).1
  simp [at1, h1, List.getElem?_append_left this, hv]

section
variable {P : Program} {n : Nat} {ρ : Env} {F : Hp} {M : List Chunk} {w0 : World} {ty : TypeId}

/-- What is appended, read cell by cell. -/
def Reads (P : Program) (x : Value) (m sz : Nat) (ys : List Value) (w : World) : Prop := (Builtin.lenOf x).run P w = .ok m w ∧ ∀ w', hp w' = hp w → (Builtin.firstCells sz m x).run P w' = .ok ys.toArray w'
theorem reads_nil (sz : Nat) (w : World) : Reads P (.slice none 0 0) 0 sz [] w := ⟨rfl, fun _ _ => rfl⟩
theorem reads_slice {sz m b o c : Nat} {ys : List Value} {w : World} (h : atN (hp w) b o (m * sz) = some ys) : Reads P (.slice (some ⟨b, o, none⟩) m c) m sz ys w :=
  ⟨rfl, fun w' e => by rw [← e] at h; exact run_loadCells P h⟩
theorem reads_str {s : ByteArray} {w : World} : Reads P (.string s) s.size 1 (s.data.toList.map fun b => .int .u8 b.toNat) w :=
  ⟨rfl, fun w' _ => by
    simp only [Builtin.firstCells, Sem.run_pure]
    congr 1
    have : s.extract 0 s.size = s := by simp
    rw [this]
    exact Array.toList_inj.1 (by simp)⟩

theorem eAppend {st xt e : TypeId} {s x : Operand} {xd : TypeDesc} {inf : TypeInfo} {z vx : Value} {A : Option Nat} {k cap sz m bytes : Nat} {xs ys : List Value} (i : Nat)
    (ht : ∀ w, (underlying st).run P w = .ok (.slice e) w) (hz : ∀ w, (sizeOf e).run P w = .ok sz w) (hi : ∀ w, (typeInfo e).run P w = .ok inf w) (hbytes : inf.bytes = bytes) (hzv : ∀ w, (zeroValue e).run P w = .ok z w)
    (hzs : z.cells.size = sz) (hxt : ∀ w, (underlying xt).run P w = .ok xd w) (hxd : (match xd with | .int _ => false | _ => true) = true) (hb0 : Nat.blt 0 bytes = true)
    (hs : evl ρ s = some (rowV A k cap)) (hx : evl ρ x = some vx) (hm : M[i]? = some (row A cap e sz xs)) (hA : A = none → cap = 0 ∧ k = 0) (hxs : xs.length = k * sz) (hys : ys.length = m * sz) (h1 : ∀ v ∈ ys, v.oneCell' = true)
    (hr : ∀ w, WS F M w0 w → Reads P vx m sz ys w) (hroom : (2 * (k + m) + 200) * bytes ≤ 281474976710656) :
    Ef P n (.call { callee := .builtin .append, args := #[s, x], argTypes := #[st, xt] }) ty ρ F M w0 (fun u F' M' => ∃ A' cap', u = rowV A' (k + m) cap' ∧ (A' = none → cap' = 0 ∧ k + m = 0) ∧ F' = F ∧ M' = M.set i (row A' cap' e sz (xs ++ ys))) := fun a w f ws dst pos after guard K Q h => by
  show Oper.upon P _ a K Q ((execOp a.eval ⟨dst, .call { callee := .builtin .append, args := #[s, x], argTypes := #[st, xt] }, ty, pos, after, guard⟩).run P w)
  have hb0' : 0 < bytes := by simpa [Nat.blt_eq] using hb0
  obtain ⟨hlen, hcells⟩ := hr w ws
  have hexec : execOp a.eval ⟨dst, .call { callee := .builtin .append, args := #[s, x], argTypes := #[st, xt] }, ty, pos, after, guard⟩ = (do pure (.value (← Builtin.append_ #[st, xt] ty #[rowV A k cap, vx]))) := by
    simp [execOp, resolve, invoke, builtin, f.eval hs, f.eval hx]
  rw [hexec]
  have hz0 : ∀ w, (do pure ((← underlying xt) matches .int _) : Sem Bool).run P w = .ok false w := fun w => by
    simp only [Sem.run_bind, hxt, Result.andThen_ok]
    cases xd <;> first | rfl | cases hxd
  by_cases hfit : k + m ≤ cap
  · cases A with
    | none =>
      obtain ⟨hcap0, hk⟩ := hA rfl
      have hm0 : m = 0 := by omega
      subst hm0; subst hk
      have hx0 : xs = [] := List.eq_nil_of_length_eq_zero (by simpa using hxs)
      have hy0 : ys = [] := List.eq_nil_of_length_eq_zero (by simpa using hys)
      subst hx0; subst hy0
      have : (Builtin.append_ #[st, xt] ty #[rowV none 0 cap, vx]).run P w = .ok (rowV none 0 cap) w := by
        simp [Builtin.append_, ht, hz, hxt, hlen, hcells w rfl]
        cases xd <;> first | (simp [hlen, hcells w rfl]; done) | cases hxd
      rw [Sem.run_bind, this]
      refine h _ _ _ _ ⟨none, cap, rfl, fun _ => ⟨hcap0, rfl⟩, rfl, rfl⟩ ?_
      rw [List.append_nil]
      have : M.set i (row none cap e sz []) = M := by
        apply List.ext_getElem?
        intro j
        rw [List.getElem?_set]
        split
        · rename_i hij
          subst hij
          split
          · exact hm.symm
          · rename_i hj; rw [List.getElem?_eq_none (by omega)]
        · rfl
      rw [this]
      exact ws
    | some b =>
      obtain ⟨sp, hb, hspl⟩ := row_at (ws.get i hm) rfl
      simp only [List.length_append] at hspl
      have hmul : (k + m) * sz ≤ cap * sz := Nat.mul_le_mul_right sz hfit
      have hmul2 : (k + m) * sz = k * sz + m * sz := Nat.add_mul _ _ _
      obtain ⟨w', r1, r2, r3, r4, r5, r6, r7⟩ := run_storeCells P b (k * sz) e ys 0 w (xs ++ sp) hb (by simp; omega) h1
      have hadd : (⟨b, 0, none⟩ : Addr).add (k * sz) = ⟨b, k * sz, none⟩ := by unfold Addr.add; split <;> simp_all
      have : (Builtin.append_ #[st, xt] ty #[rowV (some b) k cap, vx]).run P w = .ok (rowV (some b) (k + m) cap) w' := by
        simp [Builtin.append_, ht, hz, hxt, hlen, hcells w rfl, hadd]
        cases xd <;> first | (simp [hlen, hcells w rfl, hfit, hadd, r1]; done) | cases hxd
      rw [Sem.run_bind, this]
      refine h _ _ _ _ ⟨some b, cap, rfl, (fun e => by cases e), rfl, rfl⟩ ?_
      refine ws.chg i hm r4 r5 r6 (by rw [r7]; exact Nat.le_refl _) (fun j o' hj he => by rw [r3 j (fun e => hj (by rw [e]; rfl))]; exact he) ?_ (fun b' hb' => .inl hb')
      intro b' hb'
      cases hb'
      refine ⟨_, r2, sp.drop ys.length, ?_, ?_⟩
      · congr 2
        simp only [Nat.add_zero]
        rw [List.take_append_of_le_length (by omega), List.take_of_length_le (by omega), List.drop_append, List.drop_of_length_le (by omega)]
        have : k * sz + ys.length - xs.length = ys.length := by omega
        rw [this]
        simp
      · simp only [List.length_append, List.length_drop]
        omega
  · have hcap : cap < k + m := by omega
    have hnext : ¬ (Builtin.nextslicecap (k + m) cap * inf.bytes > 2 ^ 48) := by
      have := nextcap_le (k + m) cap hcap
      have h2 := Nat.mul_le_mul_right bytes this
      rw [hbytes]
      omega
    have hint : ¬ (((k + m : Nat) : Int) > IntKind.i64.max ∧ (false = true ∨ inf.bytes = 0)) := by
      rw [hbytes]
      rintro ⟨_, h | h⟩
      · cases h
      · omega
    generalize hnc : Question.cut (.appendCap (k + m) cap e) (w.tape w.drawn (.appendCap (k + m) cap e)) = nc
    have hncge : k + m ≤ nc := by rw [← hnc]; simp only [Question.cut]; omega
    have hold : ∀ w', hp w' = hp w → (Builtin.firstCells sz k (rowV A k cap)).run P w' = .ok xs.toArray w' := fun w' e => by
      cases A with
      | none =>
        obtain ⟨_, hk⟩ := hA rfl
        have hx0 : xs = [] := List.eq_nil_of_length_eq_zero (by rw [hxs, hk, Nat.zero_mul])
        subst hx0
        rfl
      | some b =>
        have := row_atN (ws.get i hm) (o := 0) (k := k * sz) (by omega)
        rw [← e] at this
        have := run_loadCells P this
        rw [List.drop_zero, List.take_of_length_le (by omega)] at this
        exact this
    generalize hrest : Builtin.zeroCells z.cells (nc - (k + m)) = rest
    have : (Builtin.append_ #[st, xt] ty #[rowV A k cap, vx]).run P w = .ok (rowV (some w.heap.size) (k + m) nc) (w.drew.alloc (.cells (xs.toArray ++ ys.toArray ++ rest) e)) := by
      have hfit' : ¬ (k + m ≤ cap) := hfit
      have hb1 : ¬ inf.bytes = 0 := by rw [hbytes]; omega
      have ho := hold w.drew rfl
      have hc := hcells w.drew rfl
      have hask : ∀ b u, (askRoom b).run P u = .ok () u := fun b u => by unfold askRoom; split <;> rfl
      have hch : ∀ u, (choose (.appendCap (k + m) cap e)).run P u = .ok (Question.cut (.appendCap (k + m) cap e) (u.tape u.drawn (.appendCap (k + m) cap e))) u.drew := fun u => rfl
      simp only [Builtin.append_, List.getElem?_toArray, List.getElem?_cons_zero, List.getElem?_cons_succ, Sem.run_bind, ht, hz, hxt, Result.andThen_ok]
      cases xd <;> first | (exfalso; exact Bool.noConfusion hxd) | skip
      all_goals
        simp only [Sem.run_pure, Result.andThen_ok, Bool.false_eq_true, if_false, hlen, if_neg hfit', Sem.run_bind, hi, hb1, false_or, and_false, or_self, Sem.run_ite, if_neg hnext, hch, hnc, hask, ho, hc, hzv, hrest]
        simp [newRow]
        congr 2
        exact Array.toList_inj.1 (by simp)
    rw [Sem.run_bind, this]
    refine h _ _ _ _ ⟨some w.heap.size, nc, rfl, (fun e => by cases e), rfl, rfl⟩ ?_
    have hrl : rest.size = (nc - (k + m)) * sz := by rw [← hrest, ← hzs]; simp [Builtin.zeroCells]
    refine ws.chg i hm rfl rfl rfl (by simp) (fun j o' _ he => ?_) ?_ (fun b' hb' => .inr ?_)
    · have := hp_lt he
      show (w.drew.heap.push _)[j]? = _
      rw [Array.getElem?_push, if_neg (by simp; omega)]
      exact he
    · intro b' hb'
      cases hb'
      refine ⟨.cells ((xs ++ ys).toArray ++ rest) e (0, 0), (by show (w.drew.heap.push _)[w.heap.size]? = _; simp [show w.drew.heap = w.heap from rfl]), rest.toList, ?_, ?_⟩
      · congr 1
        exact Array.toList_inj.1 (by simp)
      · have hmul2 : (k + m) * sz = k * sz + m * sz := Nat.add_mul _ _ _
        have hsub : (nc - (k + m)) * sz = nc * sz - (k + m) * sz := Nat.sub_mul _ _ _
        have hge : (k + m) * sz ≤ nc * sz := Nat.mul_le_mul_right sz hncge
        simp only [List.length_append, Array.length_toList, hrl]
        omega
    · cases hb'
      exact Nat.le_refl _
theorem tAppend {ops : Array Oper} {Q : Exit → Act → World → Prop} {d : Nat} {pos : String} {after : Array Edge} {rest : List Oper} {st xt e : TypeId} {s x : Operand} {xd : TypeDesc} {inf : TypeInfo} {z vx : Value} {A : Option Nat} {k cap sz m bytes : Nat} {xs ys : List Value} (i : Nat) (hd : Nat.blt d n = true)
    (ht : ∀ w, (underlying st).run P w = .ok (.slice e) w) (hz : ∀ w, (sizeOf e).run P w = .ok sz w) (hi : ∀ w, (typeInfo e).run P w = .ok inf w) (hbytes : inf.bytes = bytes) (hzv : ∀ w, (zeroValue e).run P w = .ok z w)
    (hzs : z.cells.size = sz) (hxt : ∀ w, (underlying xt).run P w = .ok xd w) (hxd : (match xd with | .int _ => false | _ => true) = true) (hb0 : Nat.blt 0 bytes = true)
    (hs : evl ρ s = some (rowV A k cap)) (hx : evl ρ x = some vx) (hm : M[i]? = some (row A cap e sz xs)) (hA : A = none → cap = 0 ∧ k = 0) (hxs : xs.length = k * sz) (hys : ys.length = m * sz) (h1 : ∀ v ∈ ys, v.oneCell' = true)
    (hr : ∀ w, WS F M w0 w → Reads P vx m sz ys w) (hroom : (2 * (k + m) + 200) * bytes ≤ 281474976710656)
    (h : ∀ A' cap', (A' = none → cap' = 0 ∧ k + m = 0) → TL P n ops rest ((d, rowV A' (k + m) cap') :: ρ) F (M.set i (row A' cap' e sz (xs ++ ys))) w0 Q) :
    TL P n ops (⟨some d, .call { callee := .builtin .append, args := #[s, x], argTypes := #[st, xt] }, ty, pos, after, none⟩ :: rest) ρ F M w0 Q :=
  tE hd (eAppend i ht hz hi hbytes hzv hzs hxt hxd hb0 hs hx hm hA hxs hys h1 hr hroom) fun _ _ _ ⟨A', cap', h1, h2, h3, h4⟩ => by subst h1; subst h3; subst h4; exact h A' cap' h2

/-- A slice of so many zeros. -/
theorem eMake {t e : TypeId} {x y : Operand} {inf : TypeInfo} {z : Value} {k sz bytes : Nat} {a b : Int} (ht : ∀ w, (underlying t).run P w = .ok (.slice e) w) (hi : ∀ w, (typeInfo e).run P w = .ok inf w) (hbytes : inf.bytes = bytes) (hz : ∀ w, (sizeOf e).run P w = .ok sz w) (hzv : ∀ w, (zeroValue e).run P w = .ok z w) (hzs : z.cells.size = sz)
    (hx : evl ρ x = some (.int .i64 a)) (hy : evl ρ y = some (.int .i64 b)) {c : Nat} (ha : a = (k : Int)) (hb : b = (c : Int)) (hkc : k ≤ c) (hroom : c * bytes ≤ 140737488355328) (hc : c ≤ 140737488355328) :
    Ef P n (.makeSlice t x y) ty ρ F M w0 (fun u F' M' => ∃ b, u = .slice (some ⟨b, 0, none⟩) k c ∧ F' = F ∧ M' = blk b (zcells z.cells.toList c) e :: M) := fun d w f s dst pos after guard K Q h => by
  subst ha; subst hb
  show Oper.upon P _ d K Q ((execOp d.eval ⟨dst, .makeSlice t x y, ty, pos, after, guard⟩).run P w)
  have hw : ∀ q : Nat, q ≤ 140737488355328 → IntKind.i64.wrap (q : Int) = q := fun q hq => by
    unfold IntKind.wrap
    have h1 : (q : Int) % (2 ^ IntKind.i64.bits : Int) = q := Int.emod_eq_of_lt (by omega) (by show (q : Int) < 2 ^ 64; omega)
    simp only [h1]
    rw [if_neg]
    simp only [Bool.and_eq_true, decide_eq_true_eq, not_and]
    intro _
    show ¬ ((q : Int) ≥ 2 ^ 63)
    omega
  have hask : ∀ b u, (askRoom b).run P u = .ok () u := fun b u => by unfold askRoom; split <;> rfl
  have : (execOp d.eval ⟨dst, .makeSlice t x y, ty, pos, after, guard⟩).run P w = .ok (.value (.slice (some ⟨w.heap.size, 0, none⟩) k c)) (w.alloc (.cells (zcells z.cells.toList c).toArray e)) := by
    have h1 : ((inf.bytes : Int) * (c : Int) > 2 ^ 48) = False := by
      rw [hbytes]
      have : ((bytes : Int) * c) = ((c * bytes : Nat) : Int) := by rw [Nat.mul_comm]; push_cast; rfl
      rw [this]; simp only [eq_iff_iff, iff_false]; omega
    have hneg : ∀ q : Nat, (decide ((q : Int) < 0)) = false := fun q => decide_eq_false (by omega)
    have hle : ¬ ((k : Int) > (c : Int)) := by omega
    have hzarr := zcells_arr z.cells sz hzs c
    simp only [execOp, f.eval hx, f.eval hy, Instr.makeSlice, Sem.run_bind, ht, hi, asInt, asIntOf, Sem.run_pure, Result.andThen_ok, hw k (by omega), hw c hc, hneg, h1, decide_false, Bool.or_self, Bool.false_eq_true, hle, or_self, if_false, Sem.run_ite, hask, hz, Int.toNat_natCast, show ¬ ((k : Int) < 0) by omega]
    by_cases h0 : c * sz = 0
    · have hnil : zcells z.cells.toList c = [] := List.eq_nil_of_length_eq_zero (by rw [zcells_len, Array.length_toList, hzs, h0])
      simp [h0, hnil, newRow]
      congr 2
      exact Array.toList_inj.1 (by simp)
    · simp [h0, hzv, newRow, hzarr]
  rw [this]
  refine h _ _ _ _ ⟨_, rfl, rfl, rfl⟩ ?_
  simpa [blk] using s.alloc (.cells (zcells z.cells.toList c).toArray e)
theorem tMake {ops : Array Oper} {Q : Exit → Act → World → Prop} {d : Nat} {pos : String} {after : Array Edge} {rest : List Oper} {t e : TypeId} {x y : Operand} {inf : TypeInfo} {z : Value} {k sz bytes : Nat} {a b : Int} (hd : Nat.blt d n = true) (ht : ∀ w, (underlying t).run P w = .ok (.slice e) w) (hi : ∀ w, (typeInfo e).run P w = .ok inf w) (hbytes : inf.bytes = bytes) (hz : ∀ w, (sizeOf e).run P w = .ok sz w) (hzv : ∀ w, (zeroValue e).run P w = .ok z w) (hzs : z.cells.size = sz)
    (hx : evl ρ x = some (.int .i64 a)) (hy : evl ρ y = some (.int .i64 b)) {c : Nat} (ha : a = (k : Int)) (hb : b = (c : Int)) (hkc : k ≤ c) (hroom : c * bytes ≤ 140737488355328) (hc : c ≤ 140737488355328)
    (h : ∀ b, TL P n ops rest ((d, .slice (some ⟨b, 0, none⟩) k c) :: ρ) F (blk b (zcells z.cells.toList c) e :: M) w0 Q) : TL P n ops (⟨some d, .makeSlice t x y, ty, pos, after, none⟩ :: rest) ρ F M w0 Q :=
  tE hd (eMake ht hi hbytes hz hzv hzs hx hy ha hb hkc hroom hc) fun _ _ _ ⟨b, h1, h2, h3⟩ => by subst h1; subst h2; subst h3; exact h b
end
end Go.V
namespace Go.V

/-- A block that is new since the beginning, alone. -/
def one (b : Nat) (o : Obj) : Hp := fun k => if k = b then some o else none
theorem one_fresh {w w' : World} {b : Nat} {o : Obj} (h : hp w' b = some o) (hb : w.heap.size ≤ b) : Fresh w w' (one b o) where
  sub k x e := by
    unfold one at e; split at e
    · rename_i hk; cases e; rw [hk]; exact h
    · cases e
  new k x e := by
    unfold one at e; split at e
    · omega
    · cases e
/-- A block of the call's own is new, if nothing of the beginning was ever taken for its own. -/
theorem new_of_off {w0 : World} {F : Hp} {b : Nat} (hF : Sub (hp w0) F) (off : F b = none) : w0.heap.size ≤ b := by
  rcases Nat.lt_or_ge b w0.heap.size with h' | h'
  · have := hF b _ (Array.getElem?_eq_getElem h')
    rw [this] at off; cases off
  · exact h'

/-! ### Wraps that do nothing -/
theorem w64 {x : Int} (h1 : -9223372036854775808 ≤ x) (h2 : x ≤ 9223372036854775807) : IntKind.i64.wrap x = x := by
  unfold IntKind.wrap
  show (if (true && decide (x % (2 ^ 64 : Int) ≥ 2 ^ 63)) = true then x % (2 ^ 64 : Int) - 2 ^ 64 else x % (2 ^ 64 : Int)) = x
  simp only [Bool.true_and, decide_eq_true_eq]
  split <;> omega
theorem w32 {x : Int} (h1 : -2147483648 ≤ x) (h2 : x ≤ 2147483647) : IntKind.i32.wrap x = x := by
  unfold IntKind.wrap
  show (if (true && decide (x % (2 ^ 32 : Int) ≥ 2 ^ 31)) = true then x % (2 ^ 32 : Int) - 2 ^ 32 else x % (2 ^ 32 : Int)) = x
  simp only [Bool.true_and, decide_eq_true_eq]
  split <;> omega
theorem wu8 {x : Int} (h1 : 0 ≤ x) (h2 : x ≤ 255) : IntKind.u8.wrap x = x := by
  unfold IntKind.wrap
  show (if (false && decide (x % (2 ^ 8 : Int) ≥ 2 ^ 7)) = true then x % (2 ^ 8 : Int) - 2 ^ 8 else x % (2 ^ 8 : Int)) = x
  simp only [Bool.false_and, Bool.false_eq_true, if_false]
  omega
theorem wu64 {x : Int} (h1 : 0 ≤ x) (h2 : x ≤ 18446744073709551615) : IntKind.u64.wrap x = x := by
  unfold IntKind.wrap
  show (if (false && decide (x % (2 ^ 64 : Int) ≥ 2 ^ 63)) = true then x % (2 ^ 64 : Int) - 2 ^ 64 else x % (2 ^ 64 : Int)) = x
  simp only [Bool.false_and, Bool.false_eq_true, if_false]
  omega

def envAll : Env → Env → Prop
  | [], _ => True
  | (d, v) :: r, ρ => look ρ d = some v ∧ envAll r ρ
theorem le_of {ρ' ρ : Env} (h : envAll ρ' ρ) : Env.le ρ' ρ := by
  induction ρ' with
  | nil => exact Env.le_nil _
  | cons p r ih => obtain ⟨d, v⟩ := p; exact Env.le_cons h.1 (ih h.2)

section
variable {P : Program} {n : Nat} {ops : Array Oper} {ρ : Env} {F : Hp} {M : List Chunk} {w0 : World} {Q : Exit → Act → World → Prop}
theorem dEnd {l : List Oper} {FS : Hp} {MS : List Chunk} (h : TL P n ops l ρ F M w0 Q) : TD P n ops (fun a' w' => wpList P ops Q l a' w') FS MS [] ρ F M w0 Q := fun a w f s => h a w f s
theorem dCallQ {T : Act → World → Prop} {FS : Hp} {MS : List Chunk} {i : Nat} {l : List (Nat × Bool)} {d : Nat} {ty : TypeId} {pos : String} {after : Array Edge} {f : FuncId} {cl : Operand} {args : Array Operand} {ts : Array TypeId} {vs first captured : List Value} {v : Value}
    (ho : ops[i]? = some ⟨some d, .call { callee := .value cl, args := args, argTypes := ts }, ty, pos, after, none⟩) (hd : Nat.blt d n = true) (hcall : ∀ (a : Array Value) w, (callFunc f a).run P w = .ok (.enter f a) w)
    (hcl : evl ρ cl = some (.func (.func f) first.toArray captured.toArray)) (ha : evls ρ args.toList = some vs)
    (hC : ∀ w, WS F M w0 w → Calls P f (first ++ vs ++ captured).toArray w (fun e w' => e = .returned v ∧ Ext w w'))
    (hS : ∀ w, WS F M w0 w → WS FS MS w0 w) (h : TD P n ops T FS MS l ((d, v) :: ρ) F M w0 Q) : TD P n ops T FS MS ((i, false) :: l) ρ F M w0 Q :=
  dE ho hd (eCallQ hcall hcl ha hC) (fun _ _ _ w ⟨_, h2, h3⟩ s => by subst h2; subst h3; exact hS w s) fun _ _ _ ⟨h1, h2, h3⟩ => by subst h1; subst h2; subst h3; exact h
theorem tNoU {d' : Nat} {op : Op} {ty : TypeId} {pos : String} {after : Array Edge} {rest : List Oper} {j d : Nat} {b : Bool} (hj : (ops[j]?).bind (·.dst) = some d) (hb : look ρ d = some undef) (hd : Nat.blt d' n = true)
    (h : TL P n ops rest ((d', undef) :: ρ) F M w0 Q) : TL P n ops (⟨some d', op, ty, pos, after, some (j, b)⟩ :: rest) ρ F M w0 Q := fun a w f s => by
  unfold wpList
  rw [if_neg (by simp [Region.wanted, yielded, hj, f.get d _ hb, undef])]
  exact h _ w (f.put hd) s
theorem dQnoU {T : Act → World → Prop} {FS : Hp} {MS : List Chunk} {i : Nat} {l : List (Nat × Bool)} {d j d' : Nat} {b : Bool} {op : Op} {ty : TypeId} {pos : String} {after : Array Edge} (ho : ops[i]? = some ⟨some d, op, ty, pos, after, some (j, b)⟩) (hd : Nat.blt d n = true)
    (hj : (ops[j]?).bind (·.dst) = some d') (hb : look ρ d' = some undef)
    (hS : ∀ w, WS F M w0 w → WS FS MS w0 w) (h : TD P n ops T FS MS l ((d, undef) :: ρ) F M w0 Q) : TD P n ops T FS MS ((i, true) :: l) ρ F M w0 Q := fun a w f s =>
  ⟨_, undef, ho, .inr ⟨(by simp [Region.wanted, yielded, hj, f.get d' _ hb, undef]), rfl⟩, hS w s, h _ w (f.put hd) s⟩
theorem dEnoU {T : Act → World → Prop} {FS : Hp} {MS : List Chunk} {i : Nat} {l : List (Nat × Bool)} {d j d' : Nat} {b : Bool} {op : Op} {ty : TypeId} {pos : String} {after : Array Edge} (ho : ops[i]? = some ⟨some d, op, ty, pos, after, some (j, b)⟩) (hd : Nat.blt d n = true)
    (hj : (ops[j]?).bind (·.dst) = some d') (hb : look ρ d' = some undef)
    (hS : ∀ w, WS F M w0 w → WS FS MS w0 w) (h : TD P n ops T FS MS l ((d, undef) :: ρ) F M w0 Q) : TD P n ops T FS MS ((i, false) :: l) ρ F M w0 Q := fun a w f s => by
  show wpOp P ops Q i _ a w
  unfold wpOp
  rw [ho]
  simp only
  rw [if_neg (by simp [Region.wanted, yielded, hj, f.get d' _ hb, undef])]
  exact ⟨hS w s, h _ w (f.put hd) s⟩
theorem dEgo {T : Act → World → Prop} {FS : Hp} {MS : List Chunk} {i : Nat} {l : List (Nat × Bool)} {d j d' : Nat} {b : Bool} {op : Op} {ty : TypeId} {pos : String} {after : Array Edge} {Post : Value → Hp → List Chunk → Prop} (ho : ops[i]? = some ⟨some d, op, ty, pos, after, some (j, b)⟩) (hd : Nat.blt d n = true)
    (hj : (ops[j]?).bind (·.dst) = some d') (hb : look ρ d' = some (.bool b))
    (he : Ef P n op ty ρ F M w0 Post) (hS : ∀ v F' M' w, Post v F' M' → WS F' M' w0 w → WS FS MS w0 w) (h : ∀ v F' M', Post v F' M' → TD P n ops T FS MS l ((d, v) :: ρ) F' M' w0 Q) : TD P n ops T FS MS ((i, false) :: l) ρ F M w0 Q := fun a w f s => by
  show wpOp P ops Q i _ a w
  unfold wpOp
  rw [ho]
  simp only
  rw [if_pos (by simp [Region.wanted, yielded, hj, f.get d' _ hb])]
  exact .inl (he a w f s _ _ _ _ _ Q fun v F' M' w' hp hw => ⟨hS v F' M' w' hp hw, h v F' M' hp _ w' (f.put hd) hw⟩)
theorem dEno {T : Act → World → Prop} {FS : Hp} {MS : List Chunk} {i : Nat} {l : List (Nat × Bool)} {d j d' : Nat} {b c : Bool} {op : Op} {ty : TypeId} {pos : String} {after : Array Edge} (ho : ops[i]? = some ⟨some d, op, ty, pos, after, some (j, b)⟩) (hd : Nat.blt d n = true)
    (hj : (ops[j]?).bind (·.dst) = some d') (hb : look ρ d' = some (.bool c)) (hc : (c == b) = false)
    (hS : ∀ w, WS F M w0 w → WS FS MS w0 w) (h : TD P n ops T FS MS l ((d, undef) :: ρ) F M w0 Q) : TD P n ops T FS MS ((i, false) :: l) ρ F M w0 Q := fun a w f s => by
  show wpOp P ops Q i _ a w
  unfold wpOp
  rw [ho]
  simp only
  rw [if_neg (by simp only [Region.wanted, yielded, hj, Option.bind_some, f.get d' _ hb]; cases b <;> cases c <;> first | exact Bool.noConfusion hc | simp)]
  exact ⟨hS w s, h _ w (f.put hd) s⟩
theorem dCallQgo {T : Act → World → Prop} {FS : Hp} {MS : List Chunk} {i : Nat} {l : List (Nat × Bool)} {d : Nat} {ty : TypeId} {pos : String} {after : Array Edge} {f : FuncId} {cl : Operand} {args : Array Operand} {ts : Array TypeId} {vs first captured : List Value} {v : Value} {j d' : Nat} {b : Bool}
    (ho : ops[i]? = some ⟨some d, .call { callee := .value cl, args := args, argTypes := ts }, ty, pos, after, some (j, b)⟩) (hd : Nat.blt d n = true) (hj : (ops[j]?).bind (·.dst) = some d') (hb : look ρ d' = some (.bool b)) (hcall : ∀ (a : Array Value) w, (callFunc f a).run P w = .ok (.enter f a) w)
    (hcl : evl ρ cl = some (.func (.func f) first.toArray captured.toArray)) (ha : evls ρ args.toList = some vs)
    (hC : ∀ w, WS F M w0 w → Calls P f (first ++ vs ++ captured).toArray w (fun e w' => e = .returned v ∧ Ext w w'))
    (hS : ∀ w, WS F M w0 w → WS FS MS w0 w) (h : TD P n ops T FS MS l ((d, v) :: ρ) F M w0 Q) : TD P n ops T FS MS ((i, false) :: l) ρ F M w0 Q :=
  dEgo ho hd hj hb (eCallQ hcall hcl ha hC) (fun _ _ _ w ⟨_, h2, h3⟩ s => by subst h2; subst h3; exact hS w s) fun _ _ _ ⟨h1, h2, h3⟩ => by subst h1; subst h2; subst h3; exact h
theorem dBox {T : Act → World → Prop} {FS : Hp} {MS : List Chunk} {i : Nat} {l : List (Nat × Bool)} {d : Nat} {ty : TypeId} {pos : String} {after : Array Edge} {e : TypeId} {x : Operand} {v : Value} {cs : List Value} (ho : ops[i]? = some ⟨some d, .box e x, ty, pos, after, none⟩) (hd : Nat.blt d n = true) (hx : evl ρ x = some v) (hc : v.cells.toList = cs)
    (hS : ∀ b w, WS F (blk b cs e :: M) w0 w → WS FS MS w0 w) (h : ∀ b, TD P n ops T FS MS l ((d, .pointer (some ⟨b, 0, none⟩)) :: ρ) F (blk b cs e :: M) w0 Q) : TD P n ops T FS MS ((i, false) :: l) ρ F M w0 Q :=
  dE ho hd (eBox hx) (fun _ _ _ w ⟨b, _, h2, h3⟩ s => by subst h2; subst h3; subst hc; exact hS b w s) fun _ _ _ ⟨b, h1, h2, h3⟩ => by subst h1; subst h2; subst h3; subst hc; exact h b
theorem dAlloc {T : Act → World → Prop} {FS : Hp} {MS : List Chunk} {i : Nat} {l : List (Nat × Bool)} {d : Nat} {ty : TypeId} {pos : String} {after : Array Edge} {e : TypeId} {z : Value} {cs : List Value} (ho : ops[i]? = some ⟨some d, .alloc e, ty, pos, after, none⟩) (hd : Nat.blt d n = true) (hz : ∀ w, (zeroValue e).run P w = .ok z w) (hc : z.cells.toList = cs)
    (hS : ∀ b w, WS F (blk b cs e :: M) w0 w → WS FS MS w0 w) (h : ∀ b, TD P n ops T FS MS l ((d, .pointer (some ⟨b, 0, none⟩)) :: ρ) F (blk b cs e :: M) w0 Q) : TD P n ops T FS MS ((i, false) :: l) ρ F M w0 Q :=
  dE ho hd (eAlloc hz) (fun _ _ _ w ⟨b, _, h2, h3⟩ s => by subst h2; subst h3; subst hc; exact hS b w s) fun _ _ _ ⟨b, h1, h2, h3⟩ => by subst h1; subst h2; subst h3; subst hc; exact h b

theorem cDrawM {id : Nat} {ol : List Oper} (k : Nat) (l : List (Nat × Bool)) (hm : P.follows .mixedOrders = true) (hB : drawB .any ol.toArray k l = true) (hQ : ∀ c a d v w, Q (.panic c) (a.put d v) w → Q (.panic c) a w)
    (h : TD P n ol.toArray (fun a' w' => wpList P ol.toArray Q (ol.drop k) a' w') F M l ρ F M w0 Q) : TC P n (.region id ol.toArray true) ρ F M w0 Q := cDraw M k l hm hB hQ h
theorem qBuildS {t ty : TypeId} {parts : Array (Nat × Operand)} {vs : List (Nat × Value)} {cs : List Value} {lay : Nat → Option (Nat × Nat)} {zero : List Value} (hB : ∀ (vs : List (Nat × Value)) (cs : List Value) (w : World), Instr.fill lay zero.toArray vs = some cs.toArray → (Instr.build t vs.toArray).run P w = .ok (.agg cs.toArray) w)
    (hp : evlP ρ parts.toList = some vs) (hf : fillL lay zero vs = some cs) : Qv P n (.build t parts) ty ρ F M w0 (.agg cs.toArray) := qBuild (vs := vs) (fun l w e => by subst e; exact hB l cs w (fillL_sound hf)) hp
theorem qSliceArr {t e rt : TypeId} {x : Operand} {b l sz : Nat} (ht : ∀ w, (underlying t).run P w = .ok (.array l e) w) (hz : ∀ w, (sizeOf e).run P w = .ok sz w) (hl : Nat.beq l 0 = false) (hx : evl ρ x = some (.pointer (some ⟨b, 0, none⟩))) :
    Qv P n (.slice t x none none none) rt ρ F M w0 (.slice (some ⟨b, 0, none⟩) l l) := fun c w f _ dst pos after guard => by
  have hne : l ≠ 0 := fun e => by rw [e] at hl; cases hl
  have ha : (⟨b, 0, none⟩ : Addr).add 0 = ⟨b, 0, none⟩ := rfl
  simp [execOp, f.eval hx, Instr.sliceAt, Instr.sureAddr, Instr.sliceBounds, ht, hz, ha]
/-- A nil slice cut at nothing. -/
theorem qSliceNil {t e rt : TypeId} {x : Operand} {lo hi : Option Operand} {cp sz : Nat} (ht : ∀ w, (underlying t).run P w = .ok (.slice e) w) (hz : ∀ w, (sizeOf e).run P w = .ok sz w) (hx : evl ρ x = some (.slice none 0 cp))
    (hlo : (∀ y, lo = some y → ∃ k, evl ρ y = some (.int k 0))) (hhi : (∀ y, hi = some y → ∃ k, evl ρ y = some (.int k 0))) :
    Qv P n (.slice t x lo hi none) rt ρ F M w0 (.slice none 0 cp) := fun c w f _ dst pos after guard => by
  cases lo with
  | none =>
    cases hi with
    | none => simp [execOp, f.eval hx, Instr.sliceAt, Instr.slice, Instr.sliceBounds, ht, hz]
    | some y =>
      obtain ⟨k, hk⟩ := hhi y rfl
      simp [execOp, f.eval hx, f.eval hk, Instr.sliceAt, Instr.slice, Instr.sliceBounds, Instr.sliceBound, asIntOf, ht, hz]
  | some z =>
    obtain ⟨k', hk'⟩ := hlo z rfl
    cases hi with
    | none => simp [execOp, f.eval hx, f.eval hk', Instr.sliceAt, Instr.slice, Instr.sliceBounds, Instr.sliceBound, asIntOf, ht, hz]
    | some y =>
      obtain ⟨k, hk⟩ := hhi y rfl
      simp [execOp, f.eval hx, f.eval hk, f.eval hk', Instr.sliceAt, Instr.slice, Instr.sliceBounds, Instr.sliceBound, asIntOf, ht, hz]
end
end Go.V

namespace Go.V
/-- Tests, as propositions. -/
theorem dsl : (∀ (p : Prop) [Decidable p], (decide p = true) = p) ∧ (∀ (p : Prop) [Decidable p], (decide p = false) = ¬p) ∧ (∀ b, ((!b) = true) = (b = false)) ∧ (∀ b, ((!b) = false) = (b = true)) ∧
    (∀ a b : Int, ((a == b) = true) = (a = b)) ∧ (∀ a b : Int, ((a == b) = false) = ¬(a = b)) ∧ (∀ a b : Int, ((a != b) = true) = ¬(a = b)) ∧ (∀ a b : Int, ((a != b) = false) = (a = b)) ∧ (∀ a b : Int, (a ≠ b) = ¬(a = b)) ∧ ((false = true) = False) ∧ ((true = false) = False) ∧
    (∀ p, (True ↔ p) = p) ∧ (∀ p, (False ↔ p) = ¬p) ∧ (∀ p, (p ↔ True) = p) ∧ (∀ p, (p ↔ False) = ¬p) ∧ ((!true) = false) ∧ ((!false) = true) ∧ ((¬True) = False) ∧ ((¬False) = True) ∧ (∀ (α : Type) (a : α), (a = a) = True) ∧
    (∀ p, (True ∧ p) = p) ∧ (∀ p, (p ∧ True) = p) ∧ (∀ p, (False ∧ p) = False) ∧ (∀ p, (p ∧ False) = False) ∧ (∀ p, (True ∨ p) = True) ∧ (∀ p, (p ∨ True) = True) ∧ (∀ p, (False ∨ p) = p) ∧ (∀ p, (p ∨ False) = p) := by
  refine ⟨?_, ?_, ?_, ?_, ?_, ?_, ?_, ?_, ?_, ?_, ?_, ?_, ?_, ?_, ?_, ?_, ?_, ?_, ?_, ?_, ?_, ?_, ?_, ?_, ?_, ?_, ?_, ?_⟩ <;> (intros; simp)
end Go.V
namespace Go.V

/-! ### The program's data, and how memory reads as it -/
structure Rng where
  lo : Int
  hi : Int
  deriving DecidableEq, Inhabited
structure Ins where
  op : Int
  set : List Rng
  x : Int
  y : Int
  n : Int
  deriving DecidableEq, Inhabited
structure Prg where
  insts : List Ins
  names : List ByteArray
  raw : Bool

def I32 (x : Int) : Prop := -2147483648 ≤ x ∧ x ≤ 2147483647
def I64 (x : Int) : Prop := -9223372036854775808 ≤ x ∧ x ≤ 9223372036854775807
def Rng.wf (r : Rng) : Prop := I32 r.lo ∧ I32 r.hi
def gR (rs : List Rng) (i : Nat) : Rng := rs.getD i ⟨0, 0⟩
def gI (is : List Ins) (i : Nat) : Ins := is.getD i ⟨0, [], 0, 0, 0⟩
def gZ (xs : List Int) (i : Nat) : Int := xs.getD i 0

theorem gR_at {rs : List Rng} {i : Nat} (h : i < rs.length) : rs[i] = gR rs i := by simp [gR, h]
theorem gI_at {is : List Ins} {i : Nat} (h : i < is.length) : is[i] = gI is i := by simp [gI, h]
theorem gZ_at {xs : List Int} {i : Nat} (h : i < xs.length) : xs[i] = gZ xs i := by simp [gZ, h]
theorem gR_mem {rs : List Rng} {i : Nat} (h : i < rs.length) : gR rs i ∈ rs := gR_at h ▸ List.getElem_mem h
theorem gI_mem {is : List Ins} {i : Nat} (h : i < is.length) : gI is i ∈ is := gI_at h ▸ List.getElem_mem h

/-- The greatest length that is ever asked of an input. -/
abbrev Big : Nat := 1048576

/-- A slice that is read: whole numbers. -/
structure RdI (h : Hp) (k : IntKind) (A : Option Addr) (n : Nat) (xs : List Int) : Prop where
  len : xs.length = n
  at_ : 0 < n → ∃ b o, A = some ⟨b, o, none⟩ ∧ ∀ i, i < n → at1 h b (o + i * 1) = some (.int k (gZ xs i))
theorem RdI.mono {h h' : Hp} {k : IntKind} {A : Option Addr} {n : Nat} {xs : List Int} (r : RdI h k A n xs) (s : Sub h h') : RdI h' k A n xs :=
  ⟨r.len, fun hn => let ⟨b, o, e, hc⟩ := r.at_ hn; ⟨b, o, e, fun i hi => at1_mono s (hc i hi)⟩⟩

/-- Ranges. -/
structure RdR (h : Hp) (A : Option Addr) (n : Nat) (rs : List Rng) : Prop where
  len : rs.length = n
  wf : ∀ r ∈ rs, r.wf
  at_ : 0 < n → ∃ b o, A = some ⟨b, o, none⟩ ∧ ∀ i, i < n → atN h b (o + i * 2) 2 = some [.int .i32 (gR rs i).lo, .int .i32 (gR rs i).hi]
theorem RdR.mono {h h' : Hp} {A : Option Addr} {n : Nat} {rs : List Rng} (r : RdR h A n rs) (s : Sub h h') : RdR h' A n rs :=
  ⟨r.len, r.wf, fun hn => let ⟨b, o, e, hc⟩ := r.at_ hn; ⟨b, o, e, fun i hi => atN_mono s (hc i hi)⟩⟩
theorem RdR.nil (h : Hp) (A : Option Addr) : RdR h A 0 [] := ⟨rfl, (fun _ hr => by cases hr), fun hn => by omega⟩
theorem RdR.open_ {h : Hp} {A : Option Addr} {n : Nat} {rs : List Rng} (r : RdR h A n rs) {i : Nat} (hi : i < n) : ∃ b o, A = some ⟨b, o, none⟩ ∧ (∀ i, i < n → atN h b (o + i * 2) 2 = some [.int .i32 (gR rs i).lo, .int .i32 (gR rs i).hi]) ∧
    (∀ i, i < n → at1 h b (o + i * 2 + 0) = some (.int .i32 (gR rs i).lo)) ∧ (∀ i, i < n → at1 h b (o + i * 2 + 1) = some (.int .i32 (gR rs i).hi)) ∧ (∀ i, i < n → (gR rs i).wf) := by
  obtain ⟨b, o, e, hc⟩ := r.at_ (by omega)
  exact ⟨b, o, e, hc, fun i hi => at1_of_atN (hc i hi) 0 rfl, fun i hi => at1_of_atN (hc i hi) 1 rfl, fun i hi => r.wf _ (gR_mem (by rw [r.len]; exact hi))⟩

/-- Strings. -/
structure RdS (h : Hp) (A : Option Addr) (n : Nat) (ss : List ByteArray) : Prop where
  len : ss.length = n
  at_ : 0 < n → ∃ b o, A = some ⟨b, o, none⟩ ∧ ∀ i, i < n → at1 h b (o + i * 1) = some (.string (ss.getD i ⟨#[]⟩))
theorem RdS.mono {h h' : Hp} {A : Option Addr} {n : Nat} {xs : List ByteArray} (r : RdS h A n xs) (s : Sub h h') : RdS h' A n xs :=
  ⟨r.len, fun hn => let ⟨b, o, e, hc⟩ := r.at_ hn; ⟨b, o, e, fun i hi => at1_mono s (hc i hi)⟩⟩

/-- Instructions. -/
structure RdP (h : Hp) (A : Option Addr) (n : Nat) (is : List Ins) : Prop where
  len : is.length = n
  wf : ∀ x ∈ is, I64 x.op ∧ I64 x.x ∧ I64 x.y ∧ I64 x.n ∧ x.set.length ≤ Big
  at_ : 0 < n → ∃ b o, A = some ⟨b, o, none⟩ ∧ ∀ i, i < n → ∃ B m c, RdR h B m (gI is i).set ∧ atN h b (o + i * 5) 5 = some [.int .i64 (gI is i).op, .slice B m c, .int .i64 (gI is i).x, .int .i64 (gI is i).y, .int .i64 (gI is i).n]
theorem RdP.mono {h h' : Hp} {A : Option Addr} {n : Nat} {is : List Ins} (r : RdP h A n is) (s : Sub h h') : RdP h' A n is :=
  ⟨r.len, r.wf, fun hn => let ⟨b, o, e, hc⟩ := r.at_ hn; ⟨b, o, e, fun i hi => let ⟨B, m, c, h1, h2⟩ := hc i hi; ⟨B, m, c, h1.mono s, atN_mono s h2⟩⟩⟩

/-- A program, as the three cells of its struct. -/
structure RdG (h : Hp) (A : Option Addr) (n : Nat) (B : Option Addr) (m : Nat) (p : Prg) : Prop where
  insts : RdP h A n p.insts
  names : RdS h B m p.names
  big : n ≤ Big ∧ m ≤ Big ∧ ∀ s ∈ p.names, s.size ≤ Big
theorem RdG.mono {h h' : Hp} {A B : Option Addr} {n m : Nat} {p : Prg} (r : RdG h A n B m p) (s : Sub h h') : RdG h' A n B m p := ⟨r.insts.mono s, r.names.mono s, r.big⟩

/-! ### Tables: what the package variables hold -/
def utf8FirstL : List Int := List.replicate 128 240 ++ List.replicate 66 241 ++ List.replicate 30 2 ++ [19] ++ List.replicate 12 3 ++ [35] ++ List.replicate 2 3 ++ [52] ++ List.replicate 3 4 ++ [68] ++ List.replicate 11 241
def acceptL : List (Int × Int) := [(128, 191), (160, 191), (128, 159), (144, 191), (128, 143)] ++ List.replicate 11 (0, 0)
def bandL : List Rng := [⟨0, 0xd7ff⟩, ⟨0xe000, 0x10ffff⟩, ⟨0x110080, 0x1100ff⟩]
/-- `gF`, `gA`, `gB`: the numbers of utf8.first, utf8.acceptRanges, sets.bands. -/
structure Tabs (gF gA gB : Nat) (h : Hp) : Prop where
  first : ∀ i, i < 256 → at1 h gF i = some (.int .u8 (utf8FirstL.getD i 0))
  accept : ∀ i, i < 16 → atN h gA (i * 2) 2 = some [.int .u8 (acceptL.getD i (0, 0)).1, .int .u8 (acceptL.getD i (0, 0)).2]
  bands : RdR h (some ⟨gB, 0, none⟩) 3 bandL
theorem Tabs.mono {gF gA gB : Nat} {h h' : Hp} (t : Tabs gF gA gB h) (s : Sub h h') : Tabs gF gA gB h' := ⟨fun i hi => at1_mono s (t.first i hi), fun i hi => atN_mono s (t.accept i hi), t.bands.mono s⟩

/-! ### Sets -/
def band (u : Int) : Int := if 0 ≤ u ∧ u ≤ 0xd7ff then 0 else if 0xe000 ≤ u ∧ u ≤ 0x10ffff then 1 else if 0x110080 ≤ u ∧ u ≤ 0x1100ff then 2 else -1
theorem band_cases (u : Int) : (band u = 0 ∧ 0 ≤ u ∧ u ≤ 0xd7ff) ∨ (band u = 1 ∧ 0xe000 ≤ u ∧ u ≤ 0x10ffff) ∨ (band u = 2 ∧ 0x110080 ≤ u ∧ u ≤ 0x1100ff) ∨ (band u = -1 ∧ ¬ (0 ≤ u ∧ u ≤ 0xd7ff) ∧ ¬ (0xe000 ≤ u ∧ u ≤ 0x10ffff) ∧ ¬ (0x110080 ≤ u ∧ u ≤ 0x1100ff)) := by
  unfold band; split
  · omega
  · split
    · omega
    · split <;> omega
theorem band_le (u : Int) (h : 0 ≤ band u) : 0 ≤ u ∧ u ≤ 0x1100ff := by rcases band_cases u with h | h | h | h <;> omega
/-- Is range i of the list as it has to be? -/
def okR (rs : List Rng) (i : Nat) : Prop := 0 ≤ band (gR rs i).lo ∧ band (gR rs i).lo = band (gR rs i).hi ∧ (gR rs i).lo ≤ (gR rs i).hi ∧ (0 < i → (gR rs (i - 1)).hi + 1 < (gR rs i).lo)
instance (rs : List Rng) (i : Nat) : Decidable (okR rs i) := by unfold okR; infer_instance
def setOk (rs : List Rng) : Prop := ∀ i, i < rs.length → okR rs i
instance (rs : List Rng) : Decidable (setOk rs) := by unfold setOk; infer_instance
def setE (rs : List Rng) : Int := if setOk rs then 0 else 1
end Go.V
namespace Go.V

/-! ### Characters and units of a text, by place -/
abbrev B (s : ByteArray) (i : Nat) : Nat := (s.get! i).toNat
theorem B_lt (s : ByteArray) (i : Nat) : B s i < 256 := (s.get! i).toNat_lt
theorem get_at {s : ByteArray} {i : Nat} (h : i < s.size) : s[i]? = some (s.get! i) := by
  rw [show s[i]? = some s[i] from getElem?_pos s i h]
  congr 1
  show s.data[i] = s.data[i]!
  rw [getElem!_pos s.data i h]

def tailV (s : ByteArray) : Nat → Nat → Nat → Option Nat
  | _, 0, v => some v
  | p, m + 1, v => if 128 ≤ B s p ∧ B s p ≤ 191 then tailV s (p + 1) m (v * 64 + B s p - 128) else none
def nOf (b : Nat) : Nat := if 240 ≤ b then 4 else if 224 ≤ b then 3 else 2
def baseOf (b : Nat) : Nat := if 240 ≤ b then 240 else if 224 ≤ b then 224 else 192
def leastOf (b : Nat) : Nat := if 240 ≤ b then 65536 else if 224 ≤ b then 2048 else 128
/-- The character that begins at a place, and its width; width 0: none does. -/
def chr (s : ByteArray) (p : Nat) : Nat × Nat :=
  if B s p < 128 then (B s p, 1)
  else if B s p < 192 ∨ 248 ≤ B s p ∨ s.size < p + nOf (B s p) then (0, 0)
  else match tailV s (p + 1) (nOf (B s p) - 1) (B s p - baseOf (B s p)) with
    | none => (0, 0)
    | some v => if v < leastOf (B s p) ∨ 0x10FFFF < v ∨ (0xD800 ≤ v ∧ v ≤ 0xDFFF) then (0, 0) else (v, nOf (B s p))
/-- The unit that begins at a place, and its width. -/
def unt (s : ByteArray) (p : Nat) : Nat × Nat := if (chr s p).2 = 0 then (0x110000 + B s p, 1) else chr s p

theorem tailV_le (s : ByteArray) : ∀ (m p v r : Nat), tailV s p m v = some r → v * 64 ^ m ≤ r ∧ r < (v + 1) * 64 ^ m
  | 0, p, v, r, h => by simp [tailV] at h; subst h; simp
  | m + 1, p, v, r, h => by
    simp only [tailV] at h
    split at h
    · rename_i hb
      obtain ⟨h1, h2⟩ := tailV_le s m (p + 1) _ r h
      have hl : v * 64 ≤ v * 64 + B s p - 128 := by omega
      have hu : v * 64 + B s p - 128 + 1 ≤ (v + 1) * 64 := by omega
      have a := Nat.mul_le_mul_right (64 ^ m) hl
      have b := Nat.mul_le_mul_right (64 ^ m) hu
      rw [Nat.pow_succ', ← Nat.mul_assoc, ← Nat.mul_assoc]
      omega
    · cases h
theorem chr_le (s : ByteArray) (p : Nat) : (chr s p).1 ≤ 0x10FFFF ∧ (chr s p).2 ≤ 4 := by
  have := B_lt s p
  unfold chr
  split
  · exact ⟨by show B s p ≤ _; omega, by show 1 ≤ 4; omega⟩
  · split
    · exact ⟨by show 0 ≤ _; omega, by show 0 ≤ 4; omega⟩
    · split
      · exact ⟨by show 0 ≤ _; omega, by show 0 ≤ 4; omega⟩
      · split
        · exact ⟨by show 0 ≤ _; omega, by show 0 ≤ 4; omega⟩
        · rename_i v _ h
          refine ⟨by show v ≤ _; omega, ?_⟩
          show nOf (B s p) ≤ 4
          unfold nOf; split
          · omega
          · split <;> omega
theorem unt_le (s : ByteArray) (p : Nat) : (unt s p).1 ≤ 0x1100FF ∧ 1 ≤ (unt s p).2 ∧ (unt s p).2 ≤ 4 := by
  have := chr_le s p
  have := B_lt s p
  unfold unt
  split
  · exact ⟨by show 0x110000 + B s p ≤ _; omega, by show 1 ≤ 1; omega, by show 1 ≤ 4; omega⟩
  · omega
/-- A unit lies in the text. -/
theorem unt_in {s : ByteArray} {p : Nat} (h : p < s.size) : p + (unt s p).2 ≤ s.size := by
  unfold unt
  split
  · show p + 1 ≤ _; omega
  · unfold chr
    split
    · show p + 1 ≤ _; omega
    · split
      · show p + 0 ≤ _; omega
      · rename_i h2
        split
        · show p + 0 ≤ _; omega
        · split
          · show p + 0 ≤ _; omega
          · show p + nOf (B s p) ≤ _; omega

/-- The width of a character's number. -/
def wid (v : Nat) : Nat := if v < 128 then 1 else if v < 2048 then 2 else if v < 65536 then 3 else 4
/-- A character's width is that of its number. -/
theorem chr_wid {s : ByteArray} {p : Nat} (h : (chr s p).2 ≠ 0) : (chr s p).2 = wid (chr s p).1 ∧ ¬ (0xD800 ≤ (chr s p).1 ∧ (chr s p).1 ≤ 0xDFFF) := by
  have hb := B_lt s p
  unfold chr at h ⊢
  split
  · rename_i h1; unfold wid; simp only; rw [if_pos h1]; exact ⟨rfl, by omega⟩
  · rename_i h1
    rw [if_neg h1] at h
    split
    · rename_i h2; rw [if_pos h2] at h; exact absurd rfl h
    · rename_i h2
      rw [if_neg h2] at h
      split
      · rename_i h3; rw [h3] at h; exact absurd rfl h
      · rename_i v h3
        rw [h3] at h
        simp only at h
        split
        · rename_i h4; rw [if_pos h4] at h; exact absurd rfl h
        · rename_i h4
          obtain ⟨t1, t2⟩ := tailV_le s _ _ _ _ h3
          simp only
          refine ⟨?_, by omega⟩
          unfold nOf baseOf leastOf at *
          unfold wid
          by_cases a : 240 ≤ B s p
          · simp only [a, if_true] at *
            simp only [show (4 : Nat) - 1 = 3 from rfl, show (64 : Nat) ^ 3 = 262144 from rfl] at t1 t2
            rw [if_neg (by omega), if_neg (by omega), if_neg (by omega)]
          · have a2 : B s p < 240 := by omega
            by_cases b : 224 ≤ B s p
            · simp only [a, b, if_true, if_false] at *
              simp only [show (3 : Nat) - 1 = 2 from rfl, show (64 : Nat) ^ 2 = 4096 from rfl] at t1 t2
              rw [if_neg (by omega), if_neg (by omega), if_pos (by omega)]
            · have b2 : B s p < 224 := by omega
              simp only [a, b, if_false] at *
              simp only [show (2 : Nat) - 1 = 1 from rfl, show (64 : Nat) ^ 1 = 64 from rfl] at t1 t2
              rw [if_neg (by omega), if_pos (by omega)]

theorem valid_iff (v : Nat) : (Utf8.valid (v : Int) = true) = (v < 55296 ∨ (57344 ≤ v ∧ v ≤ 1114111)) := by
  simp only [Utf8.valid, Bool.or_eq_true, Bool.and_eq_true, decide_eq_true_eq, eq_iff_iff]
  omega

/-- The model's own decoding. -/
theorem decode_eq {s : ByteArray} {p : Nat} (hp : p < s.size) : Utf8.decode s p = if (chr s p).2 = 0 then (0xFFFD, 1) else chr s p := by
  have hb := B_lt s p
  have g0 : (s.get! (p + 0)).toNat = B s p := rfl
  have g1 : (s.get! (p + 1)).toNat = B s (p + 1) := rfl
  have g2 : (s.get! (p + 2)).toNat = B s (p + 2) := rfl
  have g3 : (s.get! (p + 3)).toNat = B s (p + 3) := rfl
  have b1 := B_lt s (p + 1)
  have b2 := B_lt s (p + 2)
  have b3 := B_lt s (p + 3)
  unfold Utf8.decode chr
  simp only [g0, g1, g2, g3, Utf8.runeError]
  generalize hB0 : B s p = c0 at *
  generalize hB1 : B s (p + 1) = c1 at *
  generalize hB2 : B s (p + 2) = c2 at *
  generalize hB3 : B s (p + 3) = c3 at *
  simp only [Bool.and_eq_true, beq_iff_eq, decide_eq_true_eq, valid_iff]
  by_cases h1 : c0 < 128
  · rw [if_pos h1, if_pos h1]; simp
  rw [if_neg h1, if_neg h1]
  by_cases h2 : c0 < 192
  · rw [if_neg (by omega), if_neg (by omega), if_neg (by omega), if_pos (show c0 < 192 ∨ 248 ≤ c0 ∨ s.size < p + nOf c0 from .inl h2)]; simp
  by_cases h3 : 248 ≤ c0
  · rw [if_neg (by omega), if_neg (by omega), if_neg (by omega), if_pos (show c0 < 192 ∨ 248 ≤ c0 ∨ s.size < p + nOf c0 from .inr (.inl h3))]; simp
  by_cases h4 : 240 ≤ c0
  · have n4 : nOf c0 = 4 := by simp [nOf, h4]
    have bs : baseOf c0 = 240 := by simp [baseOf, h4]
    have ls : leastOf c0 = 65536 := by simp [leastOf, h4]
    rw [n4, bs, ls]
    rw [if_neg (show ¬ (c0 / 32 = 6 ∧ _) by omega), if_neg (show ¬ ((c0 / 16 = 14 ∧ _) ∧ _) by omega)]
    by_cases h5 : s.size < p + 4
    · rw [if_neg (by omega), if_pos (show c0 < 192 ∨ 248 ≤ c0 ∨ s.size < p + 4 by omega)]; simp
    rw [if_neg (show ¬ (c0 < 192 ∨ _) by omega)]
    simp only [tailV, show (4 : Nat) - 1 = 2 + 1 from rfl, hB1, show p + 1 + 1 = p + 2 from rfl, hB2, show p + 2 + 1 = p + 3 from rfl, hB3]
    by_cases k1 : 128 ≤ c1 ∧ c1 ≤ 191
    · rw [if_pos k1]
      by_cases k2 : 128 ≤ c2 ∧ c2 ≤ 191
      · rw [if_pos k2]
        by_cases k3 : 128 ≤ c3 ∧ c3 ≤ 191
        · rw [if_pos k3, if_pos (by omega)]
          have ev : c0 % 8 * 262144 + c1 % 64 * 4096 + c2 % 64 * 64 + c3 % 64 = (((c0 - 240) * 64 + c1 - 128) * 64 + c2 - 128) * 64 + c3 - 128 := by omega
          rw [ev]
          generalize (((c0 - 240) * 64 + c1 - 128) * 64 + c2 - 128) * 64 + c3 - 128 = v at *
          by_cases z : v < 65536 ∨ 1114111 < v ∨ 55296 ≤ v ∧ v ≤ 57343
          · rw [if_neg (by omega)]; simp only [if_pos z, if_true]
          · rw [if_pos (by omega)]; simp only [if_neg z]; rfl
        · rw [if_neg k3, if_neg (by omega)]; rfl
      · rw [if_neg k2, if_neg (by omega)]; rfl
    · rw [if_neg k1, if_neg (by omega)]; rfl
  by_cases h4' : 224 ≤ c0
  · have n4 : nOf c0 = 3 := by simp [nOf, h4, h4']
    have bs : baseOf c0 = 224 := by simp [baseOf, h4, h4']
    have ls : leastOf c0 = 2048 := by simp [leastOf, h4, h4']
    rw [n4, bs, ls]
    rw [if_neg (show ¬ (c0 / 32 = 6 ∧ _) by omega)]
    by_cases h5 : s.size < p + 3
    · rw [if_neg (by omega), if_neg (by omega), if_pos (show c0 < 192 ∨ 248 ≤ c0 ∨ s.size < p + 3 by omega)]; simp
    rw [if_neg (show ¬ (c0 < 192 ∨ _) by omega)]
    simp only [tailV, show (3 : Nat) - 1 = 1 + 1 from rfl, hB1, show p + 1 + 1 = p + 2 from rfl, hB2]
    by_cases k1 : 128 ≤ c1 ∧ c1 ≤ 191
    · rw [if_pos k1]
      by_cases k2 : 128 ≤ c2 ∧ c2 ≤ 191
      · rw [if_pos k2, if_pos (by omega)]
        have ev : c0 % 16 * 4096 + c1 % 64 * 64 + c2 % 64 = ((c0 - 224) * 64 + c1 - 128) * 64 + c2 - 128 := by omega
        rw [ev]
        generalize ((c0 - 224) * 64 + c1 - 128) * 64 + c2 - 128 = v at *
        by_cases z : v < 2048 ∨ 1114111 < v ∨ 55296 ≤ v ∧ v ≤ 57343
        · rw [if_neg (by omega)]; simp only [if_pos z, if_true]
        · rw [if_pos (by omega)]; simp only [if_neg z]; rfl
      · rw [if_neg k2, if_neg (by omega), if_neg (by omega)]; rfl
    · rw [if_neg k1, if_neg (by omega), if_neg (by omega)]; rfl
  · have n4 : nOf c0 = 2 := by simp [nOf, h4, h4']
    have bs : baseOf c0 = 192 := by simp [baseOf, h4, h4']
    have ls : leastOf c0 = 128 := by simp [leastOf, h4, h4']
    rw [n4, bs, ls]
    by_cases h5 : s.size < p + 2
    · rw [if_neg (by omega), if_neg (by omega), if_neg (by omega), if_pos (show c0 < 192 ∨ 248 ≤ c0 ∨ s.size < p + 2 by omega)]; simp
    rw [if_neg (show ¬ (c0 < 192 ∨ _) by omega)]
    simp only [tailV, show (2 : Nat) - 1 = 0 + 1 from rfl, hB1]
    by_cases k1 : 128 ≤ c1 ∧ c1 ≤ 191
    · rw [if_pos k1, if_pos (by omega)]
      have ev : c0 % 32 * 64 + c1 % 64 = (c0 - 192) * 64 + c1 - 128 := by omega
      rw [ev]
      have hv : (c0 - 192) * 64 + c1 - 128 < 2048 := by omega
      generalize (c0 - 192) * 64 + c1 - 128 = v at *
      by_cases z : v < 128 ∨ 1114111 < v ∨ 55296 ≤ v ∧ v ≤ 57343
      · rw [if_neg (by omega)]; simp only [if_pos z, if_true]
      · rw [if_pos (by omega)]; simp only [if_neg z]; rfl
    · rw [if_neg k1, if_neg (by omega), if_neg (by omega), if_neg (by omega)]; rfl
end Go.V
namespace Go.V
open Go.RowKit

/-! ### What a call hands over: chunks that are the caller's from now on -/
structure Own (w w' : World) (C : List Chunk) : Prop where
  ext : Ext w w'
  at_ : ∀ c ∈ C, c.At (hp w')
  new : ∀ c ∈ C, ∀ b, c.blk = some b → w.heap.size ≤ b
  apart : C.Pairwise fun c d => ∀ b, c.blk = some b → d.blk ≠ some b

theorem WS.toOwn {F : Hp} {M : List Chunk} {w0 w : World} (s : WS F M w0 w) (hF : Sub (hp w0) F) : Own w0 w M :=
  ⟨s.toExt hF, s.at_, fun c hc b hb => new_of_off hF (s.off c hc b hb), s.apart⟩
theorem WS.own {F : Hp} {M C : List Chunk} {w0 w w' : World} (s : WS F M w0 w) (o : Own w w' C) : WS F (C ++ M) w0 w' := by
  have e := s.ext o.ext
  refine ⟨e.sub, fun c hc => ?_, fun c hc b hb => ?_, List.pairwise_append.2 ⟨o.apart, e.apart, fun c hc d hd b hb hb' => ?_⟩, e.os, e.tape, e.output, e.size⟩
  · rcases List.mem_append.1 hc with h | h
    · exact o.at_ c h
    · exact e.at_ c h
  · rcases List.mem_append.1 hc with h | h
    · have hge := o.new c h b hb
      cases hF : F b with
      | none => rfl
      | some x => exact absurd (hp_lt (s.sub b x hF)) (by omega)
    · exact e.off c h b hb
  · have hge := o.new c hc b hb
    obtain ⟨x, h1, _⟩ := s.at_ d hd b hb'
    exact absurd (hp_lt h1) (by omega)
theorem fresh_from (w w' : World) : Fresh w w' (from_ w.heap.size (hp w')) :=
  ⟨from_sub _ _, fun k o e => by
    unfold from_ at e; split at e
    · cases e
    · omega⟩
theorem Chunk.At.mono {c : Chunk} {h h' : Hp} (a : c.At h) (s : Sub h h') : c.At h' := fun b hb => let ⟨o, h1, h2⟩ := a b hb; ⟨o, s b o h1, h2⟩
theorem Own.atNew {w w' : World} {C : List Chunk} (o : Own w w' C) {c : Chunk} (hc : c ∈ C) : c.At (from_ w.heap.size (hp w')) := fun b hb => by
  obtain ⟨x, h1, h2⟩ := o.at_ c hc b hb
  have := o.new c hc b hb
  exact ⟨x, by unfold from_; rw [if_neg (by omega)]; exact h1, h2⟩
theorem WS.atNew {F : Hp} {M : List Chunk} {w0 w : World} (s : WS F M w0 w) (hF : Sub (hp w0) F) {c : Chunk} (hc : c ∈ M) : c.At (from_ w0.heap.size (hp w)) := (s.toOwn hF).atNew hc

theorem eraseIdx_perm {α : Type} : ∀ (l : List α) (i : Nat) (h : i < l.length), l.Perm (l[i] :: l.eraseIdx i)
  | a :: l, 0, _ => List.Perm.refl _
  | a :: l, i + 1, h => by
    have := eraseIdx_perm l i (by simpa using h)
    exact (List.Perm.cons a this).trans (List.Perm.swap _ _ _)
theorem run_getIter {P : Program} {w : World} {r p : Nat} {s : ByteArray} (hb : w.heap[r]? = some (.stringIter s p)) : (getObj r).run P w = .ok (.stringIter s p) w := by
  simp only [getObj, Sem.run, hb]
theorem run_setIter {P : Program} {w : World} {r p : Nat} {s : ByteArray} (o : Obj) (hb : w.heap[r]? = some (.stringIter s p)) : (setObj r o).run P w = .ok () { w with heap := w.heap.setIfInBounds r o } := by
  simp only [setObj, Sem.run, hb]
/-- A chunk that is read only from now on. -/
theorem WS.freeze {F : Hp} {M : List Chunk} {w0 w : World} (s : WS F M w0 w) (i : Nat) {c : Chunk} (hi : M[i]? = some c) : ∃ F', Sub F F' ∧ c.At F' ∧ (∀ b, c.blk = some b → F b = none) ∧ WS F' (M.eraseIdx i) w0 w := by
  have hlt : i < M.length := (List.getElem?_eq_some_iff.1 hi).1
  have hmi : M[i] = c := (List.getElem?_eq_some_iff.1 hi).2
  have hcm : c ∈ M := hmi ▸ List.getElem_mem hlt
  have hperm : M.Perm (c :: M.eraseIdx i) := by
    have := eraseIdx_perm M i hlt
    rw [hmi] at this
    exact this
  have s' := s.perm hperm
  have s2 : WS F (M.eraseIdx i) w0 w := s'.less (List.sublist_cons_self _ _)
  cases hb : c.blk with
  | none => exact ⟨F, Sub.refl _, (fun b e => by rw [hb] at e; cases e), (fun b e => by cases e), s2⟩
  | some b =>
    obtain ⟨o, h1, h2⟩ := s.at_ c hcm b hb
    have hFb := s.off c hcm b hb
    refine ⟨join F (one b o), fun k x e => by simp [join, e], fun b' e => ?_, fun b' e => by cases e; exact hFb, fun k x e => ?_, s2.at_, fun d hd b' hb' => ?_, s2.apart, s.os, s.tape, s.output, s.size⟩
    · rw [hb] at e; cases e
      exact ⟨o, by simp [join, hFb, one], h2⟩
    · unfold join at e; split at e
      · rename_i y hy; cases e; exact s.sub _ _ hy
      · unfold one at e; split at e
        · rename_i hk; cases e; rw [hk]; exact h1
        · cases e
    · have := (List.pairwise_cons.1 s'.apart).1 d hd b hb
      have hne : b' ≠ b := fun e => this (e ▸ hb')
      simp [join, s2.off d hd b' hb', one, hne]

/-- A chunk at no address. -/
theorem WS.noneC {F : Hp} {M : List Chunk} {w0 w : World} (c : Chunk) (hb : c.blk = none) (s : WS F M w0 w) : WS F (c :: M) w0 w :=
  { s with
    at_ := fun d hd => by
      rcases List.mem_cons.1 hd with rfl | h
      · intro b e; rw [hb] at e; cases e
      · exact s.at_ d h
    off := fun d hd => by
      rcases List.mem_cons.1 hd with rfl | h
      · intro b e; rw [hb] at e; cases e
      · exact s.off d h
    apart := List.pairwise_cons.2 ⟨fun d _ b e => (by rw [hb] at e; cases e), s.apart⟩ }
theorem WS.nilRow {F : Hp} {M : List Chunk} {w0 w : World} (e : TypeId) (sz : Nat) (s : WS F M w0 w) : WS F (row none 0 e sz [] :: M) w0 w := s.noneC _ rfl

section
variable {P : Program} {n : Nat} {ops : Array Oper} {ρ : Env} {F : Hp} {M : List Chunk} {w0 : World} {ty : TypeId} {Q : Exit → Act → World → Prop}
theorem cFreeze {c : Code} (i : Nat) {k : Chunk} (hi : M[i]? = some k) (h : ∀ F', Sub F F' → k.At F' → (∀ b, k.blk = some b → F b = none) → TC P n c ρ F' (M.eraseIdx i) w0 Q) : TC P n c ρ F M w0 Q := fun a w f s =>
  let ⟨F', h1, h2, h3, s'⟩ := s.freeze i hi
  h F' h1 h2 h3 a w f s'
theorem tFreeze {l : List Oper} (i : Nat) {k : Chunk} (hi : M[i]? = some k) (h : ∀ F', Sub F F' → k.At F' → (∀ b, k.blk = some b → F b = none) → TL P n ops l ρ F' (M.eraseIdx i) w0 Q) : TL P n ops l ρ F M w0 Q := fun a w f s =>
  let ⟨F', h1, h2, h3, s'⟩ := s.freeze i hi
  h F' h1 h2 h3 a w f s'

/-- A callee that hands over chunks. -/
theorem tCallO {d : Nat} {pos : String} {after : Array Edge} {rest : List Oper} {f : FuncId} {cl : Operand} {args : Array Operand} {ts : Array TypeId} {vs first captured : List Value} {Φ : Value → List Chunk → Prop} (hd : Nat.blt d n = true) (hcall : ∀ (a : Array Value) w, (callFunc f a).run P w = .ok (.enter f a) w)
    (hcl : evl ρ cl = some (.func (.func f) first.toArray captured.toArray)) (ha : evls ρ args.toList = some vs)
    (hC : ∀ w, WS F M w0 w → Calls P f (first ++ vs ++ captured).toArray w (fun e w' => ∃ v, e = .returned v ∧ ∃ C, Own w w' C ∧ Φ v C))
    (h : ∀ v C, Φ v C → TL P n ops rest ((d, v) :: ρ) F (C ++ M) w0 Q) : TL P n ops (⟨some d, .call { callee := .value cl, args := args, argTypes := ts }, ty, pos, after, none⟩ :: rest) ρ F M w0 Q :=
  tCallG (Post := fun v F' M' => F' = F ∧ ∃ C, M' = C ++ M ∧ Φ v C) hd hcall hcl ha (fun w s => (hC w s).mono fun e w' ⟨v, h1, C, h2, h3⟩ => ⟨v, h1, F, C ++ M, ⟨rfl, C, rfl, h3⟩, s.own h2⟩)
    fun v F' M' ⟨h1, C, h2, h3⟩ => by subst h1; subst h2; exact h v C h3

theorem cNilRow {c : Code} (e : TypeId) (sz : Nat) (h : TC P n c ρ F (row none 0 e sz [] :: M) w0 Q) : TC P n c ρ F M w0 Q := cMem _ (fun _ s => s.nilRow e sz) h

/-! ### Texts, letter by letter -/
def iter (b : Nat) (s : ByteArray) (p : Nat) : Chunk := ⟨some b, fun o => o = .stringIter s p⟩
theorem eRange {t : TypeId} {x : Operand} {s : ByteArray} (ht : ∀ w, (underlying t).run P w = .ok .string w) (hx : evl ρ x = some (.string s)) :
    Ef P n (.range t x) ty ρ F M w0 (fun u F' M' => ∃ b, u = .pointer (some ⟨b, 0, none⟩) ∧ F' = F ∧ M' = iter b s 0 :: M) := fun a w f ws dst pos after guard K Q h => by
  show Oper.upon P _ a K Q ((execOp a.eval ⟨dst, .range t x, ty, pos, after, guard⟩).run P w)
  have : (execOp a.eval ⟨dst, .range t x, ty, pos, after, guard⟩).run P w = .ok (.value (.pointer (some ⟨w.heap.size, 0, none⟩))) (w.alloc (.stringIter s 0)) := by
    simp [execOp, f.eval hx, Instr.range, ht]
  rw [this]
  refine h _ _ _ _ ⟨_, rfl, rfl, rfl⟩ ?_
  have := ws.alloc (.stringIter s 0)
  simpa [iter] using this
theorem tRange {d : Nat} {pos : String} {after : Array Edge} {rest : List Oper} {t : TypeId} {x : Operand} {s : ByteArray} (hd : Nat.blt d n = true) (ht : ∀ w, (underlying t).run P w = .ok .string w) (hx : evl ρ x = some (.string s))
    (h : ∀ b, TL P n ops rest ((d, .pointer (some ⟨b, 0, none⟩)) :: ρ) F (iter b s 0 :: M) w0 Q) : TL P n ops (⟨some d, .range t x, ty, pos, after, none⟩ :: rest) ρ F M w0 Q :=
  tE hd (eRange ht hx) fun _ _ _ ⟨b, h1, h2, h3⟩ => by subst h1; subst h2; subst h3; exact h b
theorem eNext {x : Operand} (i : Nat) {b p : Nat} {s : ByteArray} (hx : evl ρ x = some (.pointer (some ⟨b, 0, none⟩))) (hm : M[i]? = some (iter b s p)) :
    Ef P n (.next x true) ty ρ F M w0 (fun u F' M' => F' = F ∧ ((p < s.size ∧ u = .tuple #[.bool true, .int .i64 p, .int .i32 (Utf8.decode s p).1] ∧ M' = M.set i (iter b s (p + (Utf8.decode s p).2))) ∨ (¬ p < s.size ∧ u = .tuple #[.bool false] ∧ M' = M))) := fun a w f ws dst pos after guard K Q h => by
  show Oper.upon P _ a K Q ((execOp a.eval ⟨dst, .next x true, ty, pos, after, guard⟩).run P w)
  obtain ⟨o, h1, rfl⟩ := ws.get i hm b rfl
  have hlt := hp_lt h1
  have hget : (getObj b).run P w = .ok (.stringIter s p) w := run_getIter h1
  have hset : ∀ o, (setObj b o).run P w = .ok () { w with heap := w.heap.setIfInBounds b o } := fun o => run_setIter o h1
  by_cases hp' : p < s.size
  · have : (execOp a.eval ⟨dst, .next x true, ty, pos, after, guard⟩).run P w = .ok (.value (.tuple #[.bool true, .int .i64 p, .int .i32 (Utf8.decode s p).1])) { w with heap := w.heap.setIfInBounds b (.stringIter s (p + (Utf8.decode s p).2)) } := by
      simp only [execOp, f.eval hx, Instr.next, Sem.run_bind, hget, Result.andThen_ok, if_pos hp', hset, Sem.run_pure]
      rfl
    rw [this]
    refine h _ _ _ _ ⟨rfl, .inl ⟨hp', rfl, rfl⟩⟩ ?_
    refine ws.chg i hm rfl rfl rfl (by simp) (fun k o hk ho => ?_) ?_ (fun b' hb' => .inl hb')
    · have hne : b ≠ k := fun e => hk (by rw [← e]; rfl)
      show (w.heap.setIfInBounds b _)[k]? = _
      rw [Array.getElem?_setIfInBounds_ne hne]
      exact ho
    · intro b' hb'
      cases hb'
      exact ⟨_, by show (w.heap.setIfInBounds b _)[b]? = _; simp [hlt], rfl⟩
  · have : (execOp a.eval ⟨dst, .next x true, ty, pos, after, guard⟩).run P w = .ok (.value (.tuple #[.bool false])) w := by
      simp [execOp, f.eval hx, Instr.next, hget, hp']
    rw [this]
    exact h _ _ _ _ ⟨rfl, .inr ⟨hp', rfl, rfl⟩⟩ ws
theorem tNext {d : Nat} {pos : String} {after : Array Edge} {rest : List Oper} {x : Operand} (i : Nat) {b p : Nat} {s : ByteArray} (hd : Nat.blt d n = true) (hx : evl ρ x = some (.pointer (some ⟨b, 0, none⟩))) (hm : M[i]? = some (iter b s p))
    (h1 : p < s.size → TL P n ops rest ((d, .tuple #[.bool true, .int .i64 p, .int .i32 (Utf8.decode s p).1]) :: ρ) F (M.set i (iter b s (p + (Utf8.decode s p).2))) w0 Q)
    (h2 : ¬ p < s.size → TL P n ops rest ((d, .tuple #[.bool false]) :: ρ) F M w0 Q) : TL P n ops (⟨some d, .next x true, ty, pos, after, none⟩ :: rest) ρ F M w0 Q :=
  tE hd (eNext i hx hm) fun _ _ _ ⟨e1, e2⟩ => by
    subst e1
    rcases e2 with ⟨h, e2, e3⟩ | ⟨h, e2, e3⟩
    · subst e2; subst e3; exact h1 h
    · subst e2; subst e3; exact h2 h

theorem qIdxStrB {t : TypeId} {x i : Operand} {k : IntKind} {s : ByteArray} {ix : Int} {j : Nat} (ht : ∀ w, (underlying t).run P w = .ok .string w) (hx : evl ρ x = some (.string s)) (hi : evl ρ i = some (.int k ix)) (hj : ix = (j : Int)) (hb : j < s.size) : Qv P n (.index t x i) ty ρ F M w0 (.int .u8 (B s j)) := by
  subst hj
  exact qIdxStr ht hx hi (by omega) (get_at hb)
/-! ### A text's bytes -/
theorem eBytes {t t' e : TypeId} {x : Operand} {s : ByteArray} (ht : P.underlying t = some .string) (ht' : P.underlying t' = some (.slice e)) (he : P.underlying e = some (.int .u8)) (hx : evl ρ x = some (.string s)) :
    Ef P n (.convert t t' x) ty ρ F M w0 (fun u F' M' => ∃ b c, u = .slice (some ⟨b, 0, none⟩) s.size c ∧ Sub F F' ∧ M' = M ∧ ∀ i, i < s.size → at1 F' b (0 + i * 1) = some (.int .u8 (B s i))) := fun a w f ws dst pos after guard K Q h => by
  show Oper.upon P _ a K Q ((execOp a.eval ⟨dst, .convert t t' x, ty, pos, after, guard⟩).run P w)
  have : (execOp a.eval ⟨dst, .convert t t' x, ty, pos, after, guard⟩).run P w = .ok (.value (.slice (some ⟨w.heap.size, 0, none⟩) s.size (grownCap w s.size 0 e))) (Lib.bytesWorld w e s) := by
    simp only [execOp, f.eval hx, Sem.run_bind, Lib.run_convert_string_bytes w t t' e s ht ht' he, Result.andThen_ok]
    rfl
  rw [this]
  have hext : Ext w (Lib.bytesWorld w e s) := ext_of rfl rfl rfl fun k o hk => by
    have := Lib.bytesWorld_at_old w e s k (hp_lt hk)
    unfold hp at *
    rw [this]; exact hk
  have hnew := Lib.bytesWorld_at_new w e s
  have hone := one_fresh (w := w) (w' := Lib.bytesWorld w e s) hnew (Nat.le_refl _)
  obtain ⟨s1, s2, s3⟩ := ws.fresh hext hone
  refine h _ _ _ _ ⟨_, _, rfl, s2, rfl, fun i hi => ?_⟩ s1
  refine at1_mono (s3.trans (from_sub _ _)) ?_
  simp only [at1, one, if_true, Lib.bytesCells]
  rw [Array.getElem?_append_left (by simpa using hi)]
  simp only [Nat.zero_add, Nat.mul_one, Array.getElem?_map]
  have : s.data[i]? = some (s.get! i) := get_at hi
  rw [this]; rfl
theorem tBytes {d : Nat} {pos : String} {after : Array Edge} {rest : List Oper} {t t' e : TypeId} {x : Operand} {s : ByteArray} (hd : Nat.blt d n = true) (ht : P.underlying t = some .string) (ht' : P.underlying t' = some (.slice e)) (he : P.underlying e = some (.int .u8)) (hx : evl ρ x = some (.string s))
    (h : ∀ b c F', Sub F F' → (∀ i, i < s.size → at1 F' b (0 + i * 1) = some (.int .u8 (B s i))) → TL P n ops rest ((d, .slice (some ⟨b, 0, none⟩) s.size c) :: ρ) F' M w0 Q) : TL P n ops (⟨some d, .convert t t' x, ty, pos, after, none⟩ :: rest) ρ F M w0 Q :=
  tE hd (eBytes ht ht' he hx) fun _ F' _ ⟨b, c, h1, h2, h3, h4⟩ => by subst h1; subst h3; exact h b c F' h2 h4

/-! ### Rows that are read -/
theorem rdI_row {h : Hp} {A : Option Nat} {cap e n : Nat} {k : IntKind} {xs : List Int} (r : (row A cap e 1 (xs.map (.int k ·))).At h) (hn : xs.length = n) (hA : A = none → n = 0) : RdI h k (A.map fun b => ⟨b, 0, none⟩) n xs := by
  refine ⟨hn, fun h0 => ?_⟩
  cases A with
  | none => have := hA rfl; omega
  | some b =>
    refine ⟨b, 0, rfl, fun i hi => row_at1 r ?_⟩
    have : i < xs.length := by omega
    simp [gZ, this]
theorem reads_blk {w : World} {b sz m c : Nat} {cs : List Value} {e : TypeId} (i : Nat) (hm : M[i]? = some (blk b cs e)) (hl : cs.length = m * sz) (s : WS F M w0 w) : Reads P (.slice (some ⟨b, 0, none⟩) m c) m sz cs w :=
  reads_slice (by
    obtain ⟨_, h1, rfl⟩ := s.get i hm b rfl
    simp only [atN, h1, List.size_toArray]
    rw [if_pos (by omega)]
    congr 1
    rw [List.drop_zero, List.take_of_length_le (by omega)])
theorem rdI_nil (h : Hp) (k : IntKind) (A : Option Addr) : RdI h k A 0 [] := ⟨rfl, fun hn => by omega⟩
end
end Go.V
namespace Go.V

/-! ### All units of a text -/
def uns (s : ByteArray) : Nat → Nat → List (Nat × Nat)
  | 0, _ => []
  | k + 1, p => if p < s.size then (p, (unt s p).1) :: uns s k (p + (unt s p).2) else []
def unsAt (s : ByteArray) (p : Nat) : List (Nat × Nat) := uns s (s.size - p) p
theorem uns_eq (s : ByteArray) : ∀ k k' p, s.size - p ≤ k → s.size - p ≤ k' → uns s k p = uns s k' p
  | 0, 0, _, _, _ => rfl
  | 0, k' + 1, p, h, _ => by simp only [uns]; rw [if_neg (by omega)]
  | k + 1, 0, p, _, h => by simp only [uns]; rw [if_neg (by omega)]
  | k + 1, k' + 1, p, h, h' => by
    have := unt_le s p
    simp only [uns]
    split
    · rw [uns_eq s k k' _ (by omega) (by omega)]
    · rfl
theorem unsAt_lt {s : ByteArray} {p : Nat} (h : p < s.size) : unsAt s p = (p, (unt s p).1) :: unsAt s (p + (unt s p).2) := by
  have := unt_le s p
  unfold unsAt
  rw [show s.size - p = (s.size - p - 1) + 1 from by omega]
  simp only [uns]
  rw [if_pos h, uns_eq s _ (s.size - (p + (unt s p).2)) _ (by omega) (by omega)]
theorem unsAt_ge {s : ByteArray} {p : Nat} (h : ¬ p < s.size) : unsAt s p = [] := by
  unfold unsAt
  rw [show s.size - p = 0 from by omega]
  rfl
theorem uns_len (s : ByteArray) : ∀ k p, (uns s k p).length ≤ k
  | 0, _ => Nat.le_refl _
  | k + 1, p => by
    simp only [uns]
    split
    · have := uns_len s k (p + (unt s p).2); simp; omega
    · simp
theorem unsAt_len (s : ByteArray) (p : Nat) : (unsAt s p).length ≤ s.size - p := uns_len _ _ _
def pairs (s : ByteArray) : List (Nat × Nat) := unsAt s 0
/-- The units, and their places with the end. -/
def uL (s : ByteArray) : List Int := (pairs s).map fun x => (x.2 : Int)
def pL (s : ByteArray) : List Int := (pairs s).map (fun x => (x.1 : Int)) ++ [(s.size : Int)]
theorem pairs_len (s : ByteArray) : (pairs s).length ≤ s.size := unsAt_len s 0
/-- Part of a list that is laid out so far. -/
theorem split_le {α : Type} {l a b : List α} (h : l = a ++ b) : a.length ≤ l.length := by rw [h, List.length_append]; omega

/-! ### Borders -/
def bord (s : ByteArray) (p : Nat) : Prop := (1 ≤ p → (chr s (p - 1)).2 ≤ 1) ∧ (2 ≤ p → (chr s (p - 2)).2 ≤ 2) ∧ (3 ≤ p → (chr s (p - 3)).2 ≤ 3)
instance (s : ByteArray) (p : Nat) : Decidable (bord s p) := by unfold bord; infer_instance
def brd (s : ByteArray) (at_ : Int) : Prop := 0 ≤ at_ ∧ at_ ≤ s.size ∧ bord s at_.toNat
instance (s : ByteArray) (p : Int) : Decidable (brd s p) := by unfold brd; infer_instance

/-! ### Behind a place -/
theorem ba_ext {a b : ByteArray} (h : a.size = b.size) (hb : ∀ i, i < a.size → B a i = B b i) : a = b := by
  apply ByteArray.ext
  refine Array.ext h fun i h1 h2 => ?_
  have x := get_at (s := a) h1
  have y := get_at (s := b) h2
  rw [getElem?_pos a i h1] at x
  rw [getElem?_pos b i h2] at y
  have x := Option.some.inj x
  have y := Option.some.inj y
  have x : a.data[i] = a.get! i := x
  have y : b.data[i] = b.get! i := y
  rw [x, y]
  exact UInt8.toNat_inj.1 (hb i h1)
theorem B_extract {t : ByteArray} {a b j : Nat} (h : a + j < b) (hb : b ≤ t.size) : B (t.extract a b) j = B t (a + j) := by
  have h1 : j < (t.extract a b).size := by simp [ByteArray.size_extract]; omega
  have x := get_at h1
  have y := get_at (show a + j < t.size by omega)
  have : (t.extract a b)[j]? = t[a + j]? := by
    rw [getElem?_pos (t.extract a b) j h1, getElem?_pos t (a + j) (show a + j < t.size by omega)]
    simp [ByteArray.getElem_extract]
  rw [x, y] at this
  exact congrArg UInt8.toNat (Option.some.inj this)
theorem B_ext {s : ByteArray} {p j : Nat} (h : p + j < s.size) : B (s.extract p s.size) j = B s (p + j) := B_extract h (Nat.le_refl _)
theorem tailV_ext {s : ByteArray} {p : Nat} : ∀ m j v, p + j + m ≤ s.size → tailV (s.extract p s.size) j m v = tailV s (p + j) m v
  | 0, _, _, _ => rfl
  | m + 1, j, v, h => by
    simp only [tailV]
    rw [B_ext (by omega), tailV_ext m (j + 1) _ (by omega)]
    rfl
theorem size_ext (s : ByteArray) (p : Nat) : (s.extract p s.size).size = s.size - p := by simp [ByteArray.size_extract]
theorem nOf_le (b : Nat) : 2 ≤ nOf b ∧ nOf b ≤ 4 := by unfold nOf; split; omega; split <;> omega
theorem chr_ext {s : ByteArray} {p : Nat} (h : p < s.size) : chr (s.extract p s.size) 0 = chr s p := by
  unfold chr
  rw [B_ext (show p + 0 < s.size from h), size_ext, Nat.add_zero, Nat.zero_add]
  have := nOf_le (B s p)
  split
  · rfl
  · by_cases h2 : B s p < 192 ∨ 248 ≤ B s p ∨ s.size < p + nOf (B s p)
    · rw [if_pos h2, if_pos (by omega)]
    · rw [if_neg h2, if_neg (by omega), tailV_ext _ _ _ (by omega)]
theorem unt_ext {s : ByteArray} {p : Nat} (h : p < s.size) : unt (s.extract p s.size) 0 = unt s p := by
  unfold unt
  rw [chr_ext h, B_ext (show p + 0 < s.size from h), Nat.add_zero]

/-! ### U+FFFD that is written out -/
def fffd : ByteArray := ⟨#[239, 191, 189]⟩
def isFFFD (s : ByteArray) (p : Nat) : Prop := p + 3 ≤ s.size ∧ B s p = 239 ∧ B s (p + 1) = 191 ∧ B s (p + 2) = 189
theorem chr_fffd {s : ByteArray} {p : Nat} (h : isFFFD s p) : chr s p = (0xFFFD, 3) := by
  obtain ⟨h1, h2, h3, h4⟩ := h
  unfold chr
  rw [h2, if_neg (by omega), show nOf 239 = 3 from rfl, if_neg (by omega)]
  simp only [show baseOf 239 = 224 from rfl, show leastOf 239 = 2048 from rfl, show (3 : Nat) - 1 = 2 from rfl, tailV, h3, h4, show p + 1 + 1 = p + 2 from rfl]
  simp
theorem fffd_chr {s : ByteArray} {p : Nat} (hz : (chr s p).2 ≠ 0) (hv : (chr s p).1 = 0xFFFD) : isFFFD s p := by
  have b0 := B_lt s p
  have b1 := B_lt s (p + 1)
  have b2 := B_lt s (p + 2)
  have hw := (chr_wid hz).1
  rw [hv] at hw
  unfold chr at hz hv hw
  split at hz
  · rename_i h; rw [if_pos h] at hv; simp only at hv; omega
  · rename_i h1
    rw [if_neg h1] at hv hw
    split at hz
    · exact absurd rfl hz
    · rename_i h2
      rw [if_neg h2] at hv hw
      split at hz
      · exact absurd rfl hz
      · rename_i v h3
        rw [h3] at hv hw
        simp only at hz hv hw
        split at hz
        · exact absurd rfl hz
        · rename_i h4
          rw [if_neg h4] at hv hw
          simp only at hv hw
          subst hv
          have hw : nOf (B s p) = 3 := hw
          rw [hw] at h2 h3
          have hb : 224 ≤ B s p ∧ B s p < 240 := by
            unfold nOf at hw
            split at hw
            · omega
            · split at hw <;> omega
          have hbase : baseOf (B s p) = 224 := by unfold baseOf; rw [if_neg (by omega), if_pos hb.1]
          rw [hbase] at h3
          simp only [show (3 : Nat) - 1 = 2 from rfl, tailV, show p + 1 + 1 = p + 2 from rfl] at h3
          split at h3
          · split at h3
            · have := Option.some.inj h3
              refine ⟨by omega, ?_, ?_, ?_⟩ <;> omega
            · cases h3
          · cases h3
theorem unt_number {s : ByteArray} {p : Nat} (hp : p < s.size) : ((Utf8.decode s p).1 = 0xFFFD ∧ ¬ isFFFD s p → (unt s p).1 = 0x110000 + B s p) ∧ (¬ ((Utf8.decode s p).1 = 0xFFFD ∧ ¬ isFFFD s p) → (unt s p).1 = (Utf8.decode s p).1) := by
  rw [decode_eq hp]
  unfold unt
  by_cases hz : (chr s p).2 = 0
  · rw [if_pos hz, if_pos hz]
    refine ⟨fun _ => rfl, fun h => ?_⟩
    exfalso
    apply h
    refine ⟨rfl, fun hf => ?_⟩
    rw [chr_fffd hf] at hz
    simp at hz
  · rw [if_neg hz, if_neg hz]
    refine ⟨fun h => ?_, fun _ => rfl⟩
    exact absurd (fffd_chr hz h.1) h.2
theorem unt_width {s : ByteArray} {p : Nat} (hp : p < s.size) : (unt s p).2 = (Utf8.decode s p).2 := by
  rw [decode_eq hp]
  unfold unt
  split <;> rfl
/-- What `strings.HasPrefix` asks. -/
theorem pre_fffd {s : ByteArray} {p : Nat} (hp : p ≤ s.size) : (fffd.size ≤ (s.extract p s.size).size ∧ (s.extract p s.size).extract 0 fffd.size = fffd) ↔ isFFFD s p := by
  rw [size_ext]
  have hs : fffd.size = 3 := rfl
  rw [hs]
  constructor
  · rintro ⟨h1, h2⟩
    have key : ∀ j, (hj : j < 3) → B s (p + j) = B fffd j := by
      intro j hj
      have e2 := B_extract (t := s.extract p s.size) (a := 0) (b := 3) (j := j) (by omega) (by rw [size_ext]; omega)
      rw [h2, Nat.zero_add, B_ext (by omega)] at e2
      exact e2.symm
    exact ⟨by omega, by have := key 0 (by omega); simpa using this.trans (by rfl), (key 1 (by omega)).trans (by rfl), (key 2 (by omega)).trans (by rfl)⟩
  · rintro ⟨h1, h2, h3, h4⟩
    refine ⟨by omega, ?_⟩
    refine ba_ext (by rw [ByteArray.size_extract, size_ext, hs]; omega) fun i hi => ?_
    have hi3 : i < 3 := by rw [ByteArray.size_extract] at hi; omega
    rw [B_extract (by omega) (by rw [size_ext]; omega), Nat.zero_add, B_ext (by omega)]
    have : i = 0 ∨ i = 1 ∨ i = 2 := by omega
    rcases this with rfl | rfl | rfl
    · exact h2
    · exact h3
    · exact h4
end Go.V
namespace Go.V
theorem nOf_cases (b : Nat) : (240 ≤ b ∧ nOf b = 4 ∧ leastOf b = 65536 ∧ baseOf b = 240) ∨ (224 ≤ b ∧ b < 240 ∧ nOf b = 3 ∧ leastOf b = 2048 ∧ baseOf b = 224) ∨ (b < 224 ∧ nOf b = 2 ∧ leastOf b = 128 ∧ baseOf b = 192) := by
  unfold nOf leastOf baseOf
  by_cases h : 240 ≤ b
  · left; simp [h]
  · right
    by_cases h' : 224 ≤ b
    · left; simp [h, h']; omega
    · right; simp [h, h']; omega
theorem chr_ascii {s : ByteArray} {p : Nat} (h : B s p < 128) : chr s p = (B s p, 1) := by unfold chr; rw [if_pos h]
theorem chr_bad {s : ByteArray} {p : Nat} (h1 : ¬ B s p < 128) (h : B s p < 192 ∨ 248 ≤ B s p ∨ s.size < p + nOf (B s p)) : chr s p = (0, 0) := by unfold chr; rw [if_neg h1, if_pos h]
theorem chr_none {s : ByteArray} {p : Nat} (h1 : ¬ B s p < 128) (h : ¬ (B s p < 192 ∨ 248 ≤ B s p ∨ s.size < p + nOf (B s p))) (ht : tailV s (p + 1) (nOf (B s p) - 1) (B s p - baseOf (B s p)) = none) : chr s p = (0, 0) := by
  unfold chr; rw [if_neg h1, if_neg h, ht]
theorem chr_low {s : ByteArray} {p v : Nat} (h1 : ¬ B s p < 128) (h : ¬ (B s p < 192 ∨ 248 ≤ B s p ∨ s.size < p + nOf (B s p))) (ht : tailV s (p + 1) (nOf (B s p) - 1) (B s p - baseOf (B s p)) = some v) (hv : v < leastOf (B s p) ∨ 0x10FFFF < v ∨ (0xD800 ≤ v ∧ v ≤ 0xDFFF)) : chr s p = (0, 0) := by
  unfold chr; rw [if_neg h1, if_neg h, ht]; simp only [if_pos hv]
theorem chr_val {s : ByteArray} {p v : Nat} (h1 : ¬ B s p < 128) (h : ¬ (B s p < 192 ∨ 248 ≤ B s p ∨ s.size < p + nOf (B s p))) (ht : tailV s (p + 1) (nOf (B s p) - 1) (B s p - baseOf (B s p)) = some v) (hv : ¬ (v < leastOf (B s p) ∨ 0x10FFFF < v ∨ (0xD800 ≤ v ∧ v ≤ 0xDFFF))) : chr s p = (v, nOf (B s p)) := by
  unfold chr; rw [if_neg h1, if_neg h, ht]; simp only [if_neg hv]
end Go.V
namespace Go.V
theorem rd_uL {s : ByteArray} {h : Hp} {A : Option Nat} {cap e : Nat} (r : (row A cap e 1 ((pairs s).map fun x => .int .i32 (x.2 : Nat))).At h) (hA : A = none → cap = 0 ∧ (pairs s).length = 0) : RdI h .i32 (A.map fun b => ⟨b, 0, none⟩) (pairs s).length (uL s) :=
  rdI_row (cap := cap) (e := e) (by rw [uL, List.map_map]; exact r) (by simp [uL]) fun e => (hA e).2
theorem rd_pL {s : ByteArray} {h : Hp} {A : Option Nat} {cap e : Nat} (r : (row A cap e 1 (((pairs s).map fun x => .int .i64 (x.1 : Nat)) ++ [.int .i64 s.size])).At h) (hA : A = none → cap = 0 ∧ (pairs s).length + 1 = 0) : RdI h .i64 (A.map fun b => ⟨b, 0, none⟩) ((pairs s).length + 1) (pL s) :=
  rdI_row (cap := cap) (e := e) (by rw [pL, List.map_append, List.map_map]; exact r) (by simp [pL]) fun e => (hA e).2
def UniF (s : ByteArray) (v : Value) (h : Hp) : Prop := ∃ A c, v = .slice A (pairs s).length c ∧ RdI h .i32 A (pairs s).length (uL s)
def PlaF (s : ByteArray) (v : Value) (h : Hp) : Prop := ∃ A c, v = .slice A ((pairs s).length + 1) c ∧ RdI h .i64 A ((pairs s).length + 1) (pL s)
theorem UniF.mono {s : ByteArray} (v : Value) (h h' : Hp) (k : Sub h h') (x : UniF s v h) : UniF s v h' := let ⟨A, c, h1, h2⟩ := x; ⟨A, c, h1, h2.mono k⟩
theorem PlaF.mono {s : ByteArray} (v : Value) (h h' : Hp) (k : Sub h h') (x : PlaF s v h) : PlaF s v h' := let ⟨A, c, h1, h2⟩ := x; ⟨A, c, h1, h2.mono k⟩
end Go.V
namespace Go.V

/-! ### Bits -/
theorem and_u8 : ∀ a, a < 256 → IntKind.u8.wrap ((BitVec.ofInt 8 (a : Nat) &&& BitVec.ofInt 8 7).toNat) = ((a % 8 : Nat) : Int) ∧ IntKind.u8.wrap ((BitVec.ofInt 8 (a : Nat) &&& BitVec.ofInt 8 15).toNat) = ((a % 16 : Nat) : Int) ∧
    IntKind.u8.wrap ((BitVec.ofInt 8 (a : Nat) &&& BitVec.ofInt 8 31).toNat) = ((a % 32 : Nat) : Int) ∧ IntKind.u8.wrap ((BitVec.ofInt 8 (a : Nat) &&& BitVec.ofInt 8 63).toNat) = ((a % 64 : Nat) : Int) ∧ ((a : Nat) : Int).fdiv (2 ^ (min (4 : Int).toNat IntKind.u8.bits)) = ((a / 16 : Nat) : Int) := by decide +kernel
theorem or_i32 {a b m k : Nat} (hm : m = 2 ^ k) (hb : b < m) (h : a * m + b < 2147483648) : IntKind.i32.wrap ((BitVec.ofInt 32 ((a * m : Nat) : Int) ||| BitVec.ofInt 32 (b : Int)).toNat) = ((a * m + b : Nat) : Int) := by
  subst hm
  have e : (BitVec.ofInt 32 ((a * 2 ^ k : Nat) : Int) ||| BitVec.ofInt 32 (b : Int)).toNat = a * 2 ^ k + b := by
    rw [BitVec.toNat_or, BitVec.ofInt_natCast, BitVec.ofInt_natCast, BitVec.toNat_ofNat, BitVec.toNat_ofNat, Nat.mod_eq_of_lt (by omega), Nat.mod_eq_of_lt (by omega)]
    have := Nat.shiftLeft_add_eq_or_of_lt hb a
    rw [Nat.shiftLeft_eq] at this
    exact this.symm
  rw [e]
  exact w32 (by omega) (by omega)
theorem shl_i32 {a k m : Nat} (hm : m = 2 ^ k) (hk : k ≤ 32) (h : a * m < 2147483648) : IntKind.i32.wrap (((a : Nat) : Int) * 2 ^ (min ((k : Nat) : Int).toNat IntKind.i32.bits)) = ((a * m : Nat) : Int) := by
  subst hm
  have : min ((k : Nat) : Int).toNat IntKind.i32.bits = k := by show min k 32 = k; omega
  rw [this]
  have e : ((a : Nat) : Int) * 2 ^ k = ((a * 2 ^ k : Nat) : Int) := by push_cast; rfl
  rw [e]
  exact w32 (by omega) (by omega)

theorem andNot_i32 (c : Int) : IntKind.i32.wrap ((BitVec.ofInt 32 c &&& ~~~ BitVec.ofInt 32 (-1)).toNat) = 0 := by
  have : ~~~ (BitVec.ofInt 32 (-1)) = 0#32 := by decide
  rw [this, BitVec.and_zero]
  rfl
/-! ### The tables of the decoder -/
def loOf (c : Nat) : Nat := if c = 224 then 160 else if c = 240 then 144 else 128
def hiOf (c : Nat) : Nat := if c = 237 then 159 else if c = 244 then 143 else 191
def fstV (c : Nat) : Nat := (utf8FirstL.getD c 0).toNat
def tabOk (c : Nat) : Bool := decide (c < 128) || (decide (utf8FirstL.getD c 0 = (fstV c : Int)) && decide (fstV c < 256) && (if c < 194 ∨ 245 ≤ c then decide (fstV c = 241) else decide (fstV c < 240) && decide (fstV c % 8 = nOf c) && decide (fstV c / 16 < 16) && decide ((acceptL.getD (fstV c / 16) (0, 0)).1 = (loOf c : Int)) && decide ((acceptL.getD (fstV c / 16) (0, 0)).2 = (hiOf c : Int))))
theorem tab_ok : ∀ c, c < 256 → tabOk c = true := by decide +kernel
theorem first_tab (c : Nat) (hc : c < 256) (h : 128 ≤ c) : utf8FirstL.getD c 0 = (fstV c : Int) ∧ fstV c < 256 ∧ ((c < 194 ∨ 245 ≤ c) → fstV c = 241) ∧ (194 ≤ c → c < 245 → fstV c < 240 ∧ fstV c % 8 = nOf c ∧ fstV c / 16 < 16 ∧ (acceptL.getD (fstV c / 16) (0, 0)).1 = (loOf c : Int) ∧ (acceptL.getD (fstV c / 16) (0, 0)).2 = (hiOf c : Int)) := by
  have k := tab_ok c hc
  unfold tabOk at k
  simp only [Bool.or_eq_true, decide_eq_true_eq, Bool.and_eq_true] at k
  rcases k with k | ⟨⟨k1, k2⟩, k3⟩
  · omega
  · refine ⟨k1, k2, fun h => ?_, fun h1 h2 => ?_⟩
    · rw [if_pos h] at k3
      simpa using k3
    · rw [if_neg (by omega)] at k3
      simp only [decide_eq_true_eq, Bool.and_eq_true] at k3
      obtain ⟨⟨⟨⟨a, b⟩, c⟩, d⟩, e⟩ := k3
      exact ⟨a, b, c, d, e⟩
theorem loHi (c : Nat) : 128 ≤ loOf c ∧ hiOf c ≤ 191 ∧ (c = 224 → loOf c = 160) ∧ (c = 240 → loOf c = 144) ∧ (c = 237 → hiOf c = 159) ∧ (c = 244 → hiOf c = 143) ∧ (c ≠ 224 → c ≠ 240 → loOf c = 128) ∧ (c ≠ 237 → c ≠ 244 → hiOf c = 191) := by
  unfold loOf hiOf
  refine ⟨?_, ?_, fun h => by subst h; rfl, fun h => by subst h; rfl, fun h => by subst h; rfl, fun h => by subst h; rfl, fun h h' => by rw [if_neg h, if_neg h'], fun h h' => by rw [if_neg h, if_neg h']⟩
  · split; omega; split <;> omega
  · split; omega; split <;> omega
theorem tailV_succ (s : ByteArray) (p m v : Nat) : tailV s p (m + 1) v = if 128 ≤ B s p ∧ B s p ≤ 191 then tailV s (p + 1) m (v * 64 + B s p - 128) else none := rfl

section
variable {s : ByteArray} {p : Nat}
/-- No character begins with such a byte. -/
theorem chr_out (hb : B s p < 256) (h1 : ¬ B s p < 128) (h : B s p < 194 ∨ 245 ≤ B s p) : (chr s p).2 = 0 := by
  have hn := nOf_cases (B s p)
  by_cases hin : B s p < 192 ∨ 248 ≤ B s p ∨ s.size < p + nOf (B s p)
  · rw [chr_bad h1 hin]
  · cases ht : tailV s (p + 1) (nOf (B s p) - 1) (B s p - baseOf (B s p)) with
    | none => rw [chr_none h1 hin ht]
    | some v =>
      rw [chr_low h1 hin ht]
      obtain ⟨t1, t2⟩ := tailV_le s _ _ _ _ ht
      rcases hn with ⟨a, b, c, d⟩ | ⟨a, a', b, c, d⟩ | ⟨a, b, c, d⟩
      · rw [b, d] at t1; rw [c]
        simp only [show (4 : Nat) - 1 = 3 from rfl, show (64 : Nat) ^ 3 = 262144 from rfl] at t1
        omega
      · omega
      · rw [b, d] at t2; rw [c]
        simp only [show (2 : Nat) - 1 = 1 from rfl, show (64 : Nat) ^ 1 = 64 from rfl] at t2
        omega
theorem chr_second (h1 : 194 ≤ B s p) (h2 : B s p < 245) (hsz : ¬ s.size < p + nOf (B s p)) (h : B s (p + 1) < loOf (B s p) ∨ hiOf (B s p) < B s (p + 1)) : (chr s p).2 = 0 := by
  have hn := nOf_cases (B s p)
  have hin : ¬ (B s p < 192 ∨ 248 ≤ B s p ∨ s.size < p + nOf (B s p)) := by omega
  cases ht : tailV s (p + 1) (nOf (B s p) - 1) (B s p - baseOf (B s p)) with
  | none => rw [chr_none (by omega) hin ht]
  | some v =>
    rw [chr_low (by omega) hin ht]
    have hl := loHi (B s p)
    rcases hn with ⟨a, b, c, d⟩ | ⟨a, a', b, c, d⟩ | ⟨a, b, c, d⟩
    · rw [b, d, show (4 : Nat) - 1 = 2 + 1 from rfl] at ht; rw [c]
      rw [tailV_succ] at ht
      split at ht
      · obtain ⟨t1, t2⟩ := tailV_le s _ _ _ _ ht
        simp only [show (64 : Nat) ^ 2 = 4096 from rfl] at t1 t2
        omega
      · cases ht
    · rw [b, d, show (3 : Nat) - 1 = 1 + 1 from rfl] at ht; rw [c]
      rw [tailV_succ] at ht
      split at ht
      · obtain ⟨t1, t2⟩ := tailV_le s _ _ _ _ ht
        simp only [show (64 : Nat) ^ 1 = 64 from rfl] at t1 t2
        omega
      · cases ht
    · rw [b, show (2 : Nat) - 1 = 0 + 1 from rfl] at ht
      rw [tailV_succ] at ht
      split at ht
      · omega
      · cases ht
theorem chr_two (h1 : 194 ≤ B s p) (hn : nOf (B s p) ≤ 2) (hsz : ¬ s.size < p + nOf (B s p)) (h : loOf (B s p) ≤ B s (p + 1) ∧ B s (p + 1) ≤ hiOf (B s p)) : chr s p = (B s p % 32 * 64 + B s (p + 1) % 64, 2) := by
  have hl := loHi (B s p)
  rcases nOf_cases (B s p) with ⟨a, b, c, d⟩ | ⟨a, a', b, c, d⟩ | ⟨a, b, c, d⟩
  · omega
  · omega
  · rw [chr_val (v := B s p % 32 * 64 + B s (p + 1) % 64) (by omega) (by omega) ?_ (by omega), b]
    rw [b, d, show (2 : Nat) - 1 = 0 + 1 from rfl]
    simp only [tailV]
    rw [if_pos (by omega)]
    exact congrArg some (by omega)
theorem chr_third (h1 : 194 ≤ B s p) (h2 : B s p < 245) (hn : 3 ≤ nOf (B s p)) (hsz : ¬ s.size < p + nOf (B s p)) (h : B s (p + 2) < 128 ∨ 191 < B s (p + 2)) : (chr s p).2 = 0 := by
  have hin : ¬ (B s p < 192 ∨ 248 ≤ B s p ∨ s.size < p + nOf (B s p)) := by omega
  rw [chr_none (by omega) hin]
  rcases nOf_cases (B s p) with ⟨a, b, c, d⟩ | ⟨a, a', b, c, d⟩ | ⟨a, b, c, d⟩
  · rw [b, show (4 : Nat) - 1 = 1 + 1 + 1 from rfl]
    simp only [tailV, show p + 1 + 1 = p + 2 from rfl]
    rw [if_neg (show ¬ (128 ≤ B s (p + 2) ∧ B s (p + 2) ≤ 191) by omega)]; simp
  · rw [b, show (3 : Nat) - 1 = 0 + 1 + 1 from rfl]
    simp only [tailV, show p + 1 + 1 = p + 2 from rfl]
    rw [if_neg (show ¬ (128 ≤ B s (p + 2) ∧ B s (p + 2) ≤ 191) by omega)]; simp
  · omega
theorem chr_three (h1 : 194 ≤ B s p) (hn3 : 3 ≤ nOf (B s p)) (hn : nOf (B s p) ≤ 3) (hsz : ¬ s.size < p + nOf (B s p)) (h : loOf (B s p) ≤ B s (p + 1) ∧ B s (p + 1) ≤ hiOf (B s p)) (h3 : 128 ≤ B s (p + 2) ∧ B s (p + 2) ≤ 191) :
    chr s p = ((B s p % 16 * 64 + B s (p + 1) % 64) * 64 + B s (p + 2) % 64, 3) := by
  have hl := loHi (B s p)
  rcases nOf_cases (B s p) with ⟨a, b, c, d⟩ | ⟨a, a', b, c, d⟩ | ⟨a, b, c, d⟩
  · omega
  · rw [chr_val (v := (B s p % 16 * 64 + B s (p + 1) % 64) * 64 + B s (p + 2) % 64) (by omega) (by omega) ?_ (by omega), b]
    rw [b, d, show (3 : Nat) - 1 = 0 + 1 + 1 from rfl]
    simp only [tailV, show p + 1 + 1 = p + 2 from rfl]
    rw [if_pos (by omega), if_pos (by omega)]
    exact congrArg some (by omega)
  · omega
theorem chr_fourth (h1 : 194 ≤ B s p) (h2 : B s p < 245) (hn : 4 ≤ nOf (B s p)) (hsz : ¬ s.size < p + nOf (B s p)) (h : B s (p + 3) < 128 ∨ 191 < B s (p + 3)) : (chr s p).2 = 0 := by
  have hin : ¬ (B s p < 192 ∨ 248 ≤ B s p ∨ s.size < p + nOf (B s p)) := by omega
  rw [chr_none (by omega) hin]
  rcases nOf_cases (B s p) with ⟨a, b, c, d⟩ | ⟨a, a', b, c, d⟩ | ⟨a, b, c, d⟩
  · rw [b, show (4 : Nat) - 1 = 0 + 1 + 1 + 1 from rfl]
    simp only [tailV, show p + 1 + 1 = p + 2 from rfl, show p + 2 + 1 = p + 3 from rfl]
    rw [if_neg (show ¬ (128 ≤ B s (p + 3) ∧ B s (p + 3) ≤ 191) by omega)]; simp
  · omega
  · omega
theorem chr_four (h1 : 194 ≤ B s p) (h2 : B s p < 245) (hn : 4 ≤ nOf (B s p)) (hsz : ¬ s.size < p + nOf (B s p)) (h : loOf (B s p) ≤ B s (p + 1) ∧ B s (p + 1) ≤ hiOf (B s p)) (h3 : 128 ≤ B s (p + 2) ∧ B s (p + 2) ≤ 191) (h4 : 128 ≤ B s (p + 3) ∧ B s (p + 3) ≤ 191) :
    chr s p = (((B s p % 8 * 64 + B s (p + 1) % 64) * 64 + B s (p + 2) % 64) * 64 + B s (p + 3) % 64, 4) := by
  have hl := loHi (B s p)
  rcases nOf_cases (B s p) with ⟨a, b, c, d⟩ | ⟨a, a', b, c, d⟩ | ⟨a, b, c, d⟩
  · rw [chr_val (v := ((B s p % 8 * 64 + B s (p + 1) % 64) * 64 + B s (p + 2) % 64) * 64 + B s (p + 3) % 64) (by omega) (by omega) ?_ (by omega), b]
    rw [b, d, show (4 : Nat) - 1 = 0 + 1 + 1 + 1 from rfl]
    simp only [tailV, show p + 1 + 1 = p + 2 from rfl, show p + 2 + 1 = p + 3 from rfl]
    rw [if_pos (by omega), if_pos (by omega), if_pos (by omega)]
    exact congrArg some (by omega)
  · omega
  · omega
/-- The decoder's answer, with a width of 1 for a bad byte. -/
theorem decode_bad (hp : p < s.size) (h : (chr s p).2 = 0) : Utf8.decode s p = (0xFFFD, 1) := by rw [decode_eq hp, if_pos h]
theorem decode_ok (hp : p < s.size) {x : Nat × Nat} (h : chr s p = x) (hx : x.2 ≠ 0) : Utf8.decode s p = x := by subst h; rw [decode_eq hp, if_neg hx]
end

section
variable {P : Program} {n : Nat} {ρ : Env} {F : Hp} {M : List Chunk} {w0 : World} {ty : TypeId}
theorem qAndNot {t u : TypeId} {x y : Operand} {k : IntKind} {a b c : Int} (hx : evl ρ x = some (.int k a)) (hy : evl ρ y = some (.int k b)) (hc : k.wrap ((BitVec.ofInt k.bits a &&& ~~~ BitVec.ofInt k.bits b).toNat) = c) : Qv P n (.binOp .andNot t x y u) ty ρ F M w0 (.int k c) := qBin hx hy (by simp) (by simp) fun w => by subst hc; rfl
end
end Go.V
namespace Go.V
/-! ### Sound programs -/
def nameC (c i : Nat) : Prop := (97 ≤ c ∧ c ≤ 122) ∨ (65 ≤ c ∧ c ≤ 90) ∨ c = 95 ∨ (0 < i ∧ 48 ≤ c ∧ c ≤ 57)
instance (c i : Nat) : Decidable (nameC c i) := by unfold nameC; infer_instance
def nameOk (s : ByteArray) : Prop := s.size ≤ 32 ∧ ∀ i, i < s.size → nameC (B s i) i
instance (s : ByteArray) : Decidable (nameOk s) := by unfold nameOk; infer_instance
abbrev gS (ss : List ByteArray) (i : Nat) : ByteArray := ss.getD i ⟨#[]⟩
def nameAt (ss : List ByteArray) (i : Nat) : Prop := nameOk (gS ss i) ∧ (gS ss i ≠ ⟨#[]⟩ → ∀ k, k < i → gS ss k ≠ gS ss i)
instance (ss : List ByteArray) (i : Nat) : Decidable (nameAt ss i) := by unfold nameAt; infer_instance
def namesOk (ss : List ByteArray) : Prop := ss.length ≤ 40 ∧ ∀ i, i < ss.length → nameAt ss i
instance (ss : List ByteArray) : Decidable (namesOk ss) := by unfold namesOk; infer_instance
def fitsOk (rs : List Rng) (raw : Bool) : Prop := setE rs = 0 ∧ (raw = false ∨ rs.length = 0 ∨ (gR rs (rs.length - 1)).hi ≤ 255)
instance (rs : List Rng) (raw : Bool) : Decidable (fitsOk rs raw) := by unfold fitsOk; infer_instance
def instOk (x : Ins) (n g : Int) (raw : Bool) : Prop :=
  (x.op = 1 ∧ (0 ≤ x.x ∧ x.x < n) ∧ x.y = 0 ∧ x.n = 0 ∧ setE x.set = 0 ∧ (raw = false ∨ x.set.length = 0 ∨ (gR x.set (x.set.length - 1)).hi ≤ 255)) ∨
  (x.op = 2 ∧ (0 ≤ x.x ∧ x.x < n) ∧ (0 ≤ x.y ∧ x.y < n) ∧ x.n = 0 ∧ x.set.length = 0) ∨
  (x.op = 3 ∧ (0 ≤ x.x ∧ x.x < n) ∧ x.y = 0 ∧ (2 ≤ x.n ∧ x.n ≤ 2 * g + 1) ∧ x.set.length = 0) ∨
  (x.op = 4 ∧ (0 ≤ x.x ∧ x.x < n) ∧ x.y = 0 ∧ (1 ≤ x.n ∧ (x.n ≤ 6 ∨ (raw = true ∧ x.n ≤ 8))) ∧ x.set.length = 0) ∨
  ((x.op = 5 ∨ x.op = 6) ∧ (0 ≤ x.x ∧ x.x < n) ∧ x.y = 0 ∧ (0 ≤ x.n ∧ x.n ≤ 63) ∧ x.set.length = 0) ∨
  (x.op = 9 ∧ (0 ≤ x.x ∧ x.x < n) ∧ x.y = 0 ∧ x.n = 0 ∧ x.set.length = 0) ∨
  ((x.op = 7 ∨ x.op = 8) ∧ x.x = 0 ∧ x.y = 0 ∧ x.n = 0 ∧ x.set.length = 0)
instance (x : Ins) (n g : Int) (raw : Bool) : Decidable (instOk x n g raw) := by unfold instOk; infer_instance
def checkOk (p : Prg) : Prop := (1 ≤ p.insts.length ∧ p.insts.length ≤ 20000) ∧ namesOk p.names ∧ ∀ i, i < p.insts.length → instOk (gI p.insts i) p.insts.length p.names.length p.raw
instance (p : Prg) : Decidable (checkOk p) := by unfold checkOk; infer_instance
def checkE (p : Prg) : Int := if checkOk p then 0 else 1
theorem checkE_ok {p : Prg} (h : checkOk p) : checkE p = 0 := if_pos h
theorem checkE_bad {p : Prg} (h : ¬ checkOk p) : checkE p = 1 := if_neg h
theorem setE_cases (rs : List Rng) : setE rs = 0 ∨ setE rs = 1 := by unfold setE; split; exact .inl rfl; exact .inr rfl
/-- What an instruction of each kind has. -/
def hasV (op : Int) : Int := if op = 1 then 9 else if op = 2 then 3 else if 3 ≤ op ∧ op ≤ 6 then 5 else if op = 9 then 1 else if op = 7 ∨ op = 8 then 0 else -1
theorem hasV_cases (op : Int) : (hasV op = 9 ∧ op = 1) ∨ (hasV op = 3 ∧ op = 2) ∨ (hasV op = 5 ∧ 3 ≤ op ∧ op ≤ 6) ∨ (hasV op = 1 ∧ op = 9) ∨ (hasV op = 0 ∧ (op = 7 ∨ op = 8)) ∨ (hasV op = -1 ∧ (op < 1 ∨ 9 < op)) := by
  unfold hasV
  split
  · omega
  · split
    · omega
    · split
      · omega
      · split
        · omega
        · split <;> omega
theorem and_i64 : ∀ a, a < 16 → ∀ b, b < 16 → IntKind.i64.wrap ((BitVec.ofInt 64 (a : Nat) &&& BitVec.ofInt 64 (b : Nat)).toNat) = ((a &&& b : Nat) : Int) := by decide +kernel
end Go.V
