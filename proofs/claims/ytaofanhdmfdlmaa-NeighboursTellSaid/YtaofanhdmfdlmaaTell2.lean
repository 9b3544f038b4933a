import Derived.RangeFuncNested
import Derived.RangeFuncBound
import Derived.RangeFuncCalls
import Derived.RangeFuncLeaves
import Derived.WalkKit
import Derived.OwnWalkIn
import Derived.TacticsInMore
import Derived.LoopNIn
import Derived.LoopIn
import Derived.Test.YtaofanhdmfdlmaaTell0
/-
What is proved: a law for 'for .. := range f' where the iterator's values hang on a ghost state that each round moves on (an iterator without an end,
one whose next value hangs on what the body did). Condition: the caller's invariant abides what the iterator changes between two rounds.
-/
set_option linter.unusedVariables false
namespace Go.Proofs.Ytaofanhdmfdlmaa.Rng
open Go Go.RowKit

/-- What may have turned between two looks at the loop's world: the blocks of It, new ones, and blocks from n0 on that are no cells. -/
structure Fr (It : Nat → Prop) (n0 : Nat) (W W' : World) : Prop where
  os : W'.os = W.os
  tape : W'.tape = W.tape
  output : W'.output = W.output
  size : W.heap.size ≤ W'.heap.size
  block : ∀ b, b < W.heap.size → ¬ It b → (b < n0 ∨ ∃ o, W.heap[b]? = some o ∧ o.isCells = true) → W'.heap[b]? = W.heap[b]?
/-- What an iterator does between two rounds. -/
structure ItStep (It : Nat → Prop) (W W' : World) : Prop where
  os : W'.os = W.os
  tape : W'.tape = W.tape
  output : W'.output = W.output
  size : W.heap.size ≤ W'.heap.size
  block : ∀ b, b < W.heap.size → ¬ It b → W'.heap[b]? = W.heap[b]?
/-- What a round keeps of the iterator's. -/
def Keeps (KS : Nat → Prop) (W W' : World) : Prop := W.heap.size ≤ W'.heap.size ∧ ∀ b, KS b → W'.heap[b]? = W.heap[b]?
theorem ItStep.fr {It : Nat → Prop} {W W' : World} (h : ItStep It W W') (n0 : Nat) : Fr It n0 W W' := ⟨h.os, h.tape, h.output, h.size, fun b hb hi _ => h.block b hb hi⟩
theorem ItStep.refl (It : Nat → Prop) (W : World) : ItStep It W W := ⟨rfl, rfl, rfl, Nat.le_refl _, fun _ _ _ => rfl⟩
theorem ItStep.trans {It : Nat → Prop} {A B C : World} (h : ItStep It A B) (k : ItStep It B C) : ItStep It A C :=
  ⟨k.os.trans h.os, k.tape.trans h.tape, k.output.trans h.output, Nat.le_trans h.size k.size, fun b hb hi => (k.block b (Nat.lt_of_lt_of_le hb h.size) hi).trans (h.block b hb hi)⟩
theorem ItStep.of_below {It : Nat → Prop} {A B : World} (h : Below A.heap.size A B) : ItStep It A B := ⟨h.os, h.tape, h.output, h.size, fun b hb _ => h.block b hb⟩
theorem ItStep.set {It : Nat → Prop} {A : World} {p : Addr} (hp : It p.block) (v : Value) : ItStep It A (A.setCell p v) :=
  ⟨rfl, rfl, rfl, by simp [World.setCell], fun b _ hi => Below.heap_setCell A p v b (fun e => hi (by rw [e]; exact hp))⟩

def bodyPost {σ : Type} (KS : Nat → Prop) (next : σ → σ → Prop) (I : σ → World → Prop) (Ix : Code → World → Prop) (s : σ) (W : World) : Exit → Act → World → Prop
  | .normal, _, W' => KeepsOthers W W' ∧ Keeps KS W W' ∧ ∃ s', next s s' ∧ I s' W'
  | .ret, _, W' => KeepsOthers W W' ∧ Ix .ret W'
  | .exit id, _, W' => KeepsOthers W W' ∧ Ix (.exit id) W'
  | .goto t, _, W' => KeepsOthers W W' ∧ Ix (.goto t) W'
  | .panic _, _, _ => False
  | .outgrown, _, _ => False

/-- AN ITERATOR, BY ITS GHOST STATE: at s it has more to tell or not; it tells encs s; a round moves s on to some next s'. Mem: what the caller's invariant says of the iterator's memory. -/
def Iter {σ : Type} (F : Fence) (n : Nat) (P : Program) (gf : Nat) (lb : Array Value) (encs : σ → Array Value) (more : σ → Prop) (next : σ → σ → Prop) (It KS : Nat → Prop) (Mem : σ → World → Prop) (s0 : σ) (w : World) : Prop :=
  ∀ (l : Nat) (J : σ → World → Prop) (Jx : World → Prop) (W : World), Below w.heap.size w W →
    (∀ s A B, J s A → ItStep It A B → J s B) → (∀ A B, Jx A → ItStep It A B → Jx B) → (∀ s A, J s A → Mem s A) →
    (∀ s A, J s A → more s → YieldAt F (n - 1) P l (encs s) A fun e B =>
      (e = .returned (.bool true) ∧ Keeps KS A B ∧ ∃ s', next s s' ∧ J s' B) ∨ (e = .returned (.bool false) ∧ Jx B)) →
    J s0 W →
    CallsIn F n P gf (#[.func (.yield l) #[] #[]] ++ lb) W fun e W' => (∃ v, e = .returned v) ∧ ((∃ s, ¬ more s ∧ J s W') ∨ Jx W')

theorem keeps_put {KS : Nat → Prop} (W : World) (l : Nat) (o : Obj) (h : ∀ b, KS b → b ≠ l) : Keeps KS W (W.putObj l o) :=
  ⟨by simp [World.putObj], fun b hb => World.putObj_heap_other (h b hb)⟩
theorem Keeps.trans {KS : Nat → Prop} {A B C : World} (h : Keeps KS A B) (k : Keeps KS B C) : Keeps KS A C := ⟨Nat.le_trans h.1 k.1, fun b hb => (k.2 b hb).trans (h.2 b hb)⟩
theorem fr_put {It : Nat → Prop} {n0 : Nat} {W : World} {l : Nat} {o : Obj} (o' : Obj) (hl : W.heap[l]? = some o) (ho : o.isCells = false) (hn : n0 ≤ l) : Fr It n0 W (W.putObj l o') :=
  ⟨rfl, rfl, rfl, by simp [World.putObj], fun b _ _ hc => World.putObj_heap_other (by
    rintro rfl
    rcases hc with hc | ⟨o2, h2, hc⟩
    · omega
    · rw [hl] at h2; cases h2; rw [ho] at hc; cases hc)⟩
theorem fr_alloc {It : Nat → Prop} {n0 : Nat} (W : World) (o : Obj) : Fr It n0 W (W.alloc o) :=
  ⟨rfl, rfl, rfl, by simp, fun b hb _ _ => Below.heap_alloc _ _ _ hb⟩

theorem Fr.below {It : Nat → Prop} {n0 B : Nat} {w W W' : World} (h : Fr It n0 W W') (hB : Below B w W) (hw : B ≤ w.heap.size) (hIt : ∀ b, It b → B ≤ b) (hn : B ≤ n0) : Below B w W' :=
  ⟨h.os.trans hB.os, h.tape.trans hB.tape, h.output.trans hB.output, Nat.le_trans hB.size h.size, fun b hb => (h.block b (Nat.lt_of_lt_of_le (Nat.lt_of_lt_of_le hb hw) hB.size) (fun hi => by have := hIt b hi; omega) (.inl (by omega))).trans (hB.block b hb)⟩
theorem Fr.blk {It : Nat → Prop} {n0 b : Nat} {W W' : World} {o : Obj} (h : Fr It n0 W W') (ho : W.heap[b]? = some o) (hi : ¬ It b) (hb : b < n0) : W'.heap[b]? = some o :=
  (h.block b (Array.getElem?_eq_some_iff.1 ho).1 hi (.inl hb)).trans ho
section
variable {F : Fence} {n : Nat} {P : Program}
theorem wpIn_rng {σ : Type} {g : Operand} {ps : Array Tmp} {assign body : Code} {Q : Exit → Act → World → Prop} {a : Act} {w : World}
    (hro : F.round = none) (h1 : 1 ≤ n) {gf : Nat} {lb : Array Value} (hg : a.eval g = .func (.func gf) #[] lb) (hFg : F.fn gf)
    (eg : ∀ args w, (callFunc gf args).run P w = .ok (.enter gf args) w)
    {encs : σ → Array Value} {more : σ → Prop} {next : σ → σ → Prop} {It KS : Nat → Prop} {Mem : σ → World → Prop} {s0 : σ}
    (hseq : Iter F (n - 1) P gf lb encs more next It KS Mem s0 w) (hps : ∀ s, (encs s).size = ps.size)
    (hIt : ∀ b, It b → b < w.heap.size) (hKS : ∀ b, KS b → b < w.heap.size)
    (I : σ → World → Prop) (Ix : Code → World → Prop)
    (hI : ∀ s A B, I s A → Fr It w.heap.size A B → I s B) (hIx : ∀ c A B, Ix c A → Fr It w.heap.size A B → Ix c B)
    (hM : ∀ s A, I s A → Mem s A) (h0 : I s0 w)
    (hround : ∀ (l : Nat) (s : σ) (W : World), I s W → more s → ∀ K : Act → World → Prop,
      (∀ a₁ : Act, (∀ W2, I s W2 → body.wpIn (F.inRound l) (n - 1 - 1) P (bodyPost KS next I Ix s W2) a₁ W2) → K a₁ W) →
      assign.wpIn (F.inRound l) (n - 1 - 1) P (Exit.then K (fun _ _ _ => False)) { tmps := (ps.zip (encs s)).foldl (fun t (p, v) => t.setIfInBounds p v) a.tmps, defers := [] } W)
    (hdone : ∀ (D : Nat) (s : σ) (W : World), w.heap.size ≤ D → ¬ more s → I s W → W.heap[D]? = some (.deferred (some [])) → Q .normal { a with defers := { target := .collected D, args := #[] } :: a.defers } W)
    (hstop : ∀ (D : Nat) (c : Code) (W : World), w.heap.size ≤ D → Ix c W → W.heap[D]? = some (.deferred (some [])) → c.wpIn F n P Q { a with defers := { target := .collected D, args := #[] } :: a.defers } W) :
    (Code.rangeFunc g ps assign body).wpIn F n P Q a w := by
  refine wpIn_rangeFunc fun fn hfn => ?_
  rw [hro]
  obtain ⟨rc, hrc⟩ : ∃ rc : LoopState → Option Code → Loop, rc = fun st pe => { state := st, pending := pe, fn, tmps := a.tmps, params := ps, assign, body, defers := w.heap.size } := ⟨_, rfl⟩
  obtain ⟨W1, hW1⟩ : ∃ W1, W1 = (w.alloc (.deferred (some []))).alloc (.loop (rc .ready none)) := ⟨_, rfl⟩
  have sz : W1.heap.size = w.heap.size + 2 := by rw [hW1]; simp
  have hL : W1.heap[w.heap.size + 1]? = some (.loop (rc .ready none)) := by
    have := World.alloc_heap_new (w.alloc (.deferred (some []))) (.loop (rc .ready none)); rw [World.size_alloc] at this; rw [hW1]; exact this
  have hD : W1.heap[w.heap.size]? = some (.deferred (some [])) := by
    rw [hW1]; exact (Below.heap_alloc _ _ _ (by simp)).trans (World.alloc_heap_new w _)
  have hB : Below w.heap.size w W1 := by rw [hW1]; exact ((Below.refl _ w).alloc (Nat.le_refl _) _).alloc (by simp) _
  have hI1 : I s0 W1 := by rw [hW1]; exact hI _ _ _ (hI _ _ _ h0 (fr_alloc _ _)) (fr_alloc _ _)
  refine ⟨w.heap.size + 1, [{ target := .collected w.heap.size, args := #[] }], W1, { target := .fn (.func gf) lb, args := #[.func (.yield (w.heap.size + 1)) #[] #[]] }, W1, gf,
    #[.func (.yield (w.heap.size + 1)) #[] #[]] ++ lb, W1, ?_, ?_, ?_, ?_, fun _ => h1, ?_⟩
  · rw [hW1, hrc]; exact run_enterLoop_outer _ _ _ _ _
  · simp only [resolve, hg]
    simp [go_sem]
  · intro f' hf'; simp [Target.leads] at hf'; subst hf'; exact hFg
  · simp [invoke, go_sem, eg]
  have nIt : ∀ b, w.heap.size ≤ b → ¬ It b := fun b hb h => by have := hIt b h; omega
  refine (hseq (w.heap.size + 1)
    (fun s W => I s W ∧ W.heap[w.heap.size + 1]? = some (.loop (rc .ready none)) ∧ W.heap[w.heap.size]? = some (.deferred (some [])))
    (fun W => ∃ c, Ix c W ∧ W.heap[w.heap.size + 1]? = some (.loop (rc .done (some c))) ∧ W.heap[w.heap.size]? = some (.deferred (some [])))
    W1 hB ?_ ?_ (fun s A h => hM s A h.1) ?_ ⟨hI1, hL, hD⟩).mono ?_
  · rintro s A B ⟨hi, hl, hd⟩ hs
    exact ⟨hI _ _ _ hi (hs.fr _), (hs.block _ (Array.getElem?_eq_some_iff.1 hl).1 (nIt _ (by omega))).trans hl, (hs.block _ (Array.getElem?_eq_some_iff.1 hd).1 (nIt _ (by omega))).trans hd⟩
  · rintro A B ⟨c, hi, hl, hd⟩ hs
    exact ⟨c, hIx _ _ _ hi (hs.fr _), (hs.block _ (Array.getElem?_eq_some_iff.1 hl).1 (nIt _ (by omega))).trans hl, (hs.block _ (Array.getElem?_eq_some_iff.1 hd).1 (nIt _ (by omega))).trans hd⟩
  · rintro s W ⟨hi, hl, hd⟩ hm
    have hy := run_yield (P := P) (args := encs s) hl (by rw [hrc]; exact hps s)
    rw [hrc] at hy
    refine ⟨fn, _, assign, body, hy, roundIn_of_wpIn hfn (hround _ s W hi hm _ fun a₁ hbody => ⟨_, run_beginRound hl (by rw [hrc]), ?_⟩)⟩
    obtain ⟨W2, hW2⟩ : ∃ W2, W2 = W.putObj (w.heap.size + 1) (.loop { rc .ready none with state := .busy }) := ⟨_, rfl⟩
    rw [← hW2]
    have hl2 : W2.heap[w.heap.size + 1]? = some (.loop { rc .ready none with state := .busy }) := by rw [hW2]; exact World.putObj_heap_same (Array.getElem?_eq_some_iff.1 hl).1
    have hd2 : W2.heap[w.heap.size]? = some (.deferred (some [])) := by rw [hW2]; exact (World.putObj_heap_other (by omega)).trans hd
    have hk2 : Keeps KS W W2 := by rw [hW2]; exact keeps_put _ _ _ fun b hb => by have := hKS b hb; omega
    have hi2 : I s W2 := by rw [hW2]; exact hI _ _ _ hi (fr_put _ hl rfl (by omega))
    refine wpIn_mono (hbody W2 hi2) ?_
    have fin : ∀ (jump : Option Code) (W3 : World), KeepsOthers W2 W3 → W3.heap[w.heap.size + 1]? = some (.loop { rc .ready none with state := .busy }) ∧
        (Instr.endRound (w.heap.size + 1) jump).run P W3 = .ok (.bool jump.isNone) (W3.putObj (w.heap.size + 1) (.loop (rc (if jump.isNone then .ready else .done) jump))) ∧
        (W3.putObj (w.heap.size + 1) (.loop (rc (if jump.isNone then .ready else .done) jump))).heap[w.heap.size + 1]? = some (.loop (rc (if jump.isNone then .ready else .done) jump)) ∧
        (W3.putObj (w.heap.size + 1) (.loop (rc (if jump.isNone then .ready else .done) jump))).heap[w.heap.size]? = some (.deferred (some [])) := fun jump W3 hk3 => by
      have hl3 := hk3.same _ _ hl2 rfl
      have he := run_endRound (P := P) jump hl3
      rw [hrc] at he ⊢
      rw [hrc] at hl3
      exact ⟨hl3, he, World.putObj_heap_same (Array.getElem?_eq_some_iff.1 hl3).1, (World.putObj_heap_other (by omega)).trans (hk3.same _ _ hd2 rfl)⟩
    have out : ∀ (c : Code) (W3 : World), KeepsOthers W2 W3 → Ix c W3 → ∃ v w', (Instr.endRound (w.heap.size + 1) (some c)).run P W3 = .ok v w' ∧
        ((Ending.returned v = .returned (.bool true) ∧ Keeps KS W w' ∧ ∃ s', next s s' ∧ (I s' w' ∧ w'.heap[w.heap.size + 1]? = some (.loop (rc .ready none)) ∧ w'.heap[w.heap.size]? = some (.deferred (some [])))) ∨
         (Ending.returned v = .returned (.bool false) ∧ ∃ c, Ix c w' ∧ w'.heap[w.heap.size + 1]? = some (.loop (rc .done (some c))) ∧ w'.heap[w.heap.size]? = some (.deferred (some [])))) := fun c W3 hk3 hx => by
      obtain ⟨hl3, hr, hl4, hd4⟩ := fin (some c) W3 hk3
      exact ⟨_, _, hr, .inr ⟨rfl, c, hIx _ _ _ hx (fr_put _ hl3 rfl (by omega)), hl4, hd4⟩⟩
    rintro e a3 W3 hp
    cases e with
    | normal =>
      obtain ⟨hk3, hks, s', hn, hi3⟩ := hp
      obtain ⟨hl3, hr, hl4, hd4⟩ := fin none W3 hk3
      exact ⟨_, _, hr, .inl ⟨rfl, hk2.trans (hks.trans (keeps_put _ _ _ fun b hb => by have := hKS b hb; omega)), s', hn, hI _ _ _ hi3 (fr_put _ hl3 rfl (by omega)), hl4, hd4⟩⟩
    | ret => exact out _ _ hp.1 hp.2
    | exit id => exact out _ _ hp.1 hp.2
    | goto t => exact out _ _ hp.1 hp.2
    | panic ch => exact hp.elim
    | outgrown => exact hp.elim
  · rintro e W2 ⟨⟨v, rfl⟩, (⟨s, hm, hi, hl, hd⟩ | ⟨c, hi, hl, hd⟩)⟩
    · exact ⟨none, _, by have := run_endLoop (P := P) hl (by rw [hrc]; simp); rw [hrc] at this; exact this, hdone _ s _ (Nat.le_refl _) hm (hI _ _ _ hi (fr_put _ hl rfl (by omega))) ((World.putObj_heap_other (by omega)).trans hd)⟩
    · exact ⟨some c, _, by have := run_endLoop (P := P) hl (by rw [hrc]; simp); rw [hrc] at this; exact this, hstop _ c _ (Nat.le_refl _) (hIx _ _ _ hi (fr_put _ hl rfl (by omega))) ((World.putObj_heap_other (by omega)).trans hd)⟩
end
end Go.Proofs.Ytaofanhdmfdlmaa.Rng

-- PRINTED by print.py (a twelfth state) out of the translation. Not trusted: Lean checks it.
namespace Go.Proofs.Ytaofanhdmfdlmaa.Print
open Go.RowKit Go.Proofs.YtaofanhdmfdlmaaW.PrintWords Go.Proofs.YtaofanhdmfdlmaaW.PrintLast Go.Proofs.YtaofanhdmfdlmaaW.PrintMore
attribute [local go_sem] max2_int min2_int max_two min_two max_three min_three max_four min_four   -- for this text's walks alone
set_option linter.unusedVariables false
set_option linter.unusedSimpArgs false

/-! ### slices_Index_uint64_uint64: function 125 -/
/-! ### slices_Contains_uint64_uint64: function 89 -/
/-! ### equations_ids: function 90 -/
/-! ### downpourref12_Why: function 48 -/
/-! ### downpourref12_Add: function 49 -/
/-! ### degree_sized: function 161 -/
def degree_sized.f (a0 : Int) : Option (Bool) := if a0 ≥ 1 then (some (decide (a0 ≤ 64))) else (some false)
set_option maxHeartbeats 8000000 in
set_option maxRecDepth 100000 in
theorem degree_sized.calls (a0 : Int) (r : Bool) (w : World) (h : degree_sized.f a0 = some r) :
    Calls Try.prog 161 #[.int .i64 a0] w fun e w' => e = .returned (.bool r) ∧ Drawn0 w w' := by
  have H : (if a0 ≥ 1 then (some (decide (a0 ≤ 64))) else (some false)) = some r := h
  clear h
  by_cases c2 : a0 ≥ 1
  · rw [if_pos c2] at H
    have c2b0 : decide (1 ≤ a0) = true := decide_eq_true c2
    clear c2
    obtain rfl := Option.some.inj H
    go_enter Try.func161, Try.ntmps161
    go_wp2
    go_ret
    exact ⟨by first | rfl | (simp; done) | (simp [*]; done), by repeat (first | exact Drawn0.refl _ | apply Drawn0.step)⟩
  · rw [if_neg c2] at H
    have c2b0 : decide (1 ≤ a0) = false := decide_eq_false c2
    clear c2
    obtain rfl := Option.some.inj H
    go_enter Try.func161, Try.ntmps161
    go_wp2
    go_ret
    exact ⟨by first | rfl | (simp; done) | (simp [*]; done), by repeat (first | exact Drawn0.refl _ | apply Drawn0.step)⟩

/-! ### random_mixed: function 163 -/
def random_mixed.f (a0 : Int) : Option (Int) := some (Go.bits .xor .u64 (IntKind.u64.wrap ((Go.bits .xor .u64 (IntKind.u64.wrap ((Go.bits .xor .u64 a0 (a0 / 1073741824)) * 13787848793156543929)) ((IntKind.u64.wrap ((Go.bits .xor .u64 a0 (a0 / 1073741824)) * 13787848793156543929)) / 134217728)) * 10723151780598845931)) ((IntKind.u64.wrap ((Go.bits .xor .u64 (IntKind.u64.wrap ((Go.bits .xor .u64 a0 (a0 / 1073741824)) * 13787848793156543929)) ((IntKind.u64.wrap ((Go.bits .xor .u64 a0 (a0 / 1073741824)) * 13787848793156543929)) / 134217728)) * 10723151780598845931)) / 2147483648))
set_option maxHeartbeats 8000000 in
set_option maxRecDepth 100000 in
theorem random_mixed.calls (a0 : Int) (r : Int) (w : World) (h : random_mixed.f a0 = some r) :
    Calls Try.prog 163 #[.int .u64 a0] w fun e w' => e = .returned (.int .u64 r) ∧ Drawn0 w w' := by
  have H : (some (Go.bits .xor .u64 (IntKind.u64.wrap ((Go.bits .xor .u64 (IntKind.u64.wrap ((Go.bits .xor .u64 a0 (a0 / 1073741824)) * 13787848793156543929)) ((IntKind.u64.wrap ((Go.bits .xor .u64 a0 (a0 / 1073741824)) * 13787848793156543929)) / 134217728)) * 10723151780598845931)) ((IntKind.u64.wrap ((Go.bits .xor .u64 (IntKind.u64.wrap ((Go.bits .xor .u64 a0 (a0 / 1073741824)) * 13787848793156543929)) ((IntKind.u64.wrap ((Go.bits .xor .u64 a0 (a0 / 1073741824)) * 13787848793156543929)) / 134217728)) * 10723151780598845931)) / 2147483648))) = some r := h
  clear h
  obtain rfl := Option.some.inj H
  go_enter Try.func163, Try.ntmps163
  go_wp2
  go_ret
  exact ⟨by first | rfl | (simp; done) | (simp [*]; done), by repeat (first | exact Drawn0.refl _ | apply Drawn0.step)⟩

/-! ### random_Next: function 134 -/
def random_Next.f (a0 : Int) : Option (Int × Int) := (random_mixed.f (IntKind.u64.wrap (a0 + 11400714819323198485))).bind fun t720 => (some (IntKind.u64.wrap (a0 + 11400714819323198485), t720))
set_option maxHeartbeats 8000000 in
set_option maxRecDepth 100000 in
theorem random_Next.calls (a0 : Int) (r1 : Int) (r2 : Int) (w : World) (h : random_Next.f a0 = some (r1, r2)) :
    Calls Try.prog 134 #[.int .u64 a0] w fun e w' => e = .returned (.tuple #[.int .u64 r1, .int .u64 r2]) ∧ Drawn0 w w' := by
  have H : ((random_mixed.f (IntKind.u64.wrap (a0 + 11400714819323198485))).bind fun t720 => (some (IntKind.u64.wrap (a0 + 11400714819323198485), t720))) = some (r1, r2) := h
  clear h
  replace H := Option.bind_eq_some_iff.mp H
  obtain ⟨t720, A20, H⟩ := H
  replace H : (some (IntKind.u64.wrap (a0 + 11400714819323198485), t720)) = some (r1, r2) := H
  have A2 := Aside0.mk A20
  clear A20
  simp only [Option.some.injEq, Prod.mk.injEq] at H
  obtain ⟨rfl, rfl⟩ := H
  go_enter Try.func134, Try.ntmps134
  go_wp2_with (first | ((with_reducible refine gate_callee (f := 163) rfl ?_); refine goesL_ (some 8) rfl rfl Try.func163 (by kernel_rfl) rfl #[.int .u64 (IntKind.u64.wrap (a0 + 11400714819323198485))] rfl (by (try simp only [List.map_toArray, List.map_cons, List.map_nil]); first | done | rfl | (simp only [List.length_drop, List.length_take]; rfl)) ?_; (with_reducible refine (random_mixed.calls (IntKind.u64.wrap (a0 + 11400714819323198485)) t720 _ A2.out).mono ?_); rintro e w' ⟨rfl, ⟨nd, rfl⟩⟩; refine ⟨_, rfl, ?_⟩))
  go_ret2
  exact ⟨by first | rfl | (simp; done) | (simp [*]; done), by repeat (first | exact Drawn0.refl _ | apply Drawn0.step)⟩

/-! ### random_Start: function 135 -/
def random_Start.f (a0 : Int) : Option (Int) := (random_mixed.f a0).bind fun t721 => (some t721)
set_option maxHeartbeats 8000000 in
set_option maxRecDepth 100000 in
theorem random_Start.calls (a0 : Int) (r : Int) (w : World) (h : random_Start.f a0 = some r) :
    Calls Try.prog 135 #[.int .u64 a0] w fun e w' => e = .returned (.int .u64 r) ∧ Drawn0 w w' := by
  have H : ((random_mixed.f a0).bind fun t721 => (some t721)) = some r := h
  clear h
  replace H := Option.bind_eq_some_iff.mp H
  obtain ⟨t721, A20, H⟩ := H
  replace H : (some t721) = some r := H
  have A2 := Aside0.mk A20
  clear A20
  obtain rfl := Option.some.inj H
  go_enter Try.func135, Try.ntmps135
  go_wp2_with (first | ((with_reducible refine gate_callee (f := 163) rfl ?_); refine goesL_ (some 4) rfl rfl Try.func163 (by kernel_rfl) rfl #[.int .u64 a0] rfl (by (try simp only [List.map_toArray, List.map_cons, List.map_nil]); first | done | rfl | (simp only [List.length_drop, List.length_take]; rfl)) ?_; (with_reducible refine (random_mixed.calls a0 t721 _ A2.out).mono ?_); rintro e w' ⟨rfl, ⟨nd, rfl⟩⟩; refine ⟨_, rfl, ?_⟩))
  go_ret
  exact ⟨by first | rfl | (simp; done) | (simp [*]; done), by repeat (first | exact Drawn0.refl _ | apply Drawn0.step)⟩

/-! ### bitrow_sized: function 166 -/
def bitrow_sized.f (a0 : Int) : Option (Bool) := if a0 ≥ 0 then (some (decide (a0 ≤ 512))) else (some false)
set_option maxHeartbeats 8000000 in
set_option maxRecDepth 100000 in
theorem bitrow_sized.calls (a0 : Int) (r : Bool) (w : World) (h : bitrow_sized.f a0 = some r) :
    Calls Try.prog 166 #[.int .i64 a0] w fun e w' => e = .returned (.bool r) ∧ Drawn0 w w' := by
  have H : (if a0 ≥ 0 then (some (decide (a0 ≤ 512))) else (some false)) = some r := h
  clear h
  by_cases c2 : a0 ≥ 0
  · rw [if_pos c2] at H
    have c2b0 : decide (0 ≤ a0) = true := decide_eq_true c2
    clear c2
    obtain rfl := Option.some.inj H
    go_enter Try.func166, Try.ntmps166
    go_wp2
    go_ret
    exact ⟨by first | rfl | (simp; done) | (simp [*]; done), by repeat (first | exact Drawn0.refl _ | apply Drawn0.step)⟩
  · rw [if_neg c2] at H
    have c2b0 : decide (0 ≤ a0) = false := decide_eq_false c2
    clear c2
    obtain rfl := Option.some.inj H
    go_enter Try.func166, Try.ntmps166
    go_wp2
    go_ret
    exact ⟨by first | rfl | (simp; done) | (simp [*]; done), by repeat (first | exact Drawn0.refl _ | apply Drawn0.step)⟩

end Go.Proofs.Ytaofanhdmfdlmaa.Print

