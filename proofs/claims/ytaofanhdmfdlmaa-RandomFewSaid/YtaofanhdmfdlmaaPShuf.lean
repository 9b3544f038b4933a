/-
What is proved: an order of the numbers below n, and so many of them, by the program and by the reference, are the same. Condition: the state is a uint64, 1 ≤ n ≤ 512.
-/
import Derived.Test.YtaofanhdmfdlmaaPRand
import Derived.Test.YtaofanhdmfdlmaaPrint95

import Derived.Test.YtaofanhdmfdlmaaPrint37
import Derived.Test.YtaofanhdmfdlmaaPrint40
import Derived.Test.YtaofanhdmfdlmaaPrint38
namespace Go.Proofs.Ytaofanhdmfdlmaa.Print
open Go Go.RowKit Go.Proofs.YtaofanhdmfdlmaaW.PrintWords Go.Proofs.YtaofanhdmfdlmaaW.PrintLast Go.Proofs.YtaofanhdmfdlmaaW.PrintMore
set_option linter.unusedVariables false

theorem wrap64_in {x : Int} (h : -9223372036854775808 ≤ x ∧ x ≤ 9223372036854775807) : wrap64 x = x := IntWalk.wrap64_in x h
theorem ref_mixed (z : Int) (h0 : 0 ≤ z) (h1 : z < M64) : downpourref06_Mixed.f z = some (mixv z) := by
  unfold M64 at h1
  have q2 : ∀ y d : Int, 1 ≤ d → IntKind.u64.wrap (Int.tdiv (IntKind.u64.wrap y) d) = IntKind.u64.wrap y / d := fun y d hd => by
    refine IntWalk.u64_quo _ d ⟨?_, ?_, hd⟩ <;> rw [u64_wrap] <;> unfold M64 <;> omega
  unfold downpourref06_Mixed.f mixv random_mixed.f
  simp only [Option.getD_some]
  rw [IntWalk.u64_quo z 1073741824 ⟨h0, by omega, by omega⟩, q2 _ _ (by omega), q2 _ _ (by omega)]
theorem ref_rest (n : Int) (h1 : 1 ≤ n) (h2 : n ≤ 512) : downpourref06_rest.f n = some (rb_rest n) := by
  unfold downpourref06_rest.f
  rw [if_neg (by omega)]
  congr 1
  have a := Int.emod_nonneg 18446744073709551615 (show n ≠ 0 by omega)
  have b := Int.emod_lt_of_pos 18446744073709551615 (show 0 < n by omega)
  rw [IntWalk.u64_in _ (by omega), IntWalk.rem_in _ _ (by omega), Int.emod_add_emod]
  unfold rb_rest rb_res
  by_cases h : n = 1
  · rw [if_pos h, h]; rfl
  · rw [if_neg h]; rfl
theorem ref_below_go (n : Int) (h1 : 1 ≤ n) (h2 : n ≤ 512) : ∀ (k : Nat) (c : Int), downpourref06_Below.l0 k c n (M64 - 1 - rb_rest n) = rb_go k c n := by
  intro k
  induction k with
  | zero => intro c; rfl
  | succ k ih =>
    intro c
    have hr := rb_nx_range c
    have e : IntKind.u64.wrap (c + 11400714819323198485) = rb_nx c := rfl
    simp only [downpourref06_Below.l0, rb_go, e, ref_mixed _ hr.1 hr.2, Option.bind_some, ← rb_mx_eq]
    have hm := rb_mx_range c
    rw [rb_acc_iff n _ h1 h2 ⟨hm.1, by unfold M64; omega⟩]
    have hu : IntKind.u64.wrap n = n := IntWalk.u64_in _ (by omega)
    have a := Int.emod_nonneg (rb_mx c) (show n ≠ 0 by omega)
    have b := Int.emod_lt_of_pos (rb_mx c) (show 0 < n by omega)
    by_cases hc : rb_mx c ≤ M64 - 1 - rb_rest n
    · rw [if_pos hc, hu, if_neg (by omega), IntWalk.rem_in _ _ hm.1, wrap64_in (by omega), if_pos (decide_eq_true hc)]
    · rw [if_neg hc, if_neg (by rw [decide_eq_false hc]; decide)]; exact ih _
theorem ref_below_k (k : Nat) (c n : Int) (h1 : 1 ≤ n) (h2 : n ≤ 512) : downpourref06_Below.f k c n = rb_go k c n := by
  have hr := rb_rest_range n h1 h2
  unfold downpourref06_Below.f
  rw [IntWalk.u64_in n (by omega), ref_rest n h1 h2]
  simp only [Option.bind_some]
  have e : IntKind.u64.wrap (18446744073709551615 - rb_rest n) = M64 - 1 - rb_rest n := by rw [IntWalk.u64_in _ (by omega)]; unfold M64; omega
  rw [e, ref_below_go n h1 h2]
theorem below_go (c n : Int) (h1 : 1 ≤ n) (h2 : n ≤ 512) {r : Int × Int} (h : random_below.f c n = some r) : ∃ k, rb_go k c n = some r := by
  unfold random_below.f at h
  rw [if_pos ⟨h1, h2⟩] at h
  exact ⟨_, h⟩
theorem ref_below_ev (c n : Int) (h1 : 1 ≤ n) (h2 : n ≤ 512) {r : Int × Int} (h : random_below.f c n = some r) : Ev (fun k => downpourref06_Below.f k c n) r := by
  obtain ⟨k, hk⟩ := below_go c n h1 h2 h
  exact Ev.of (fun k => downpourref06_Below.mono c n k) (k := k) (by rw [ref_below_k k c n h1 h2, hk])

/-! ### orders -/
def ints (n : Nat) : List Int := (List.range n).map fun i : Nat => (i : Int)
theorem ints_length (n : Nat) : (ints n).length = n := by simp [ints]
theorem ints_succ (n : Nat) : ints (n + 1) = ints n ++ [(n : Int)] := by simp [ints, List.range_succ]
def shufB (c n : Int) : Int × Int := (random_below.f c n).getD (0, 0)
theorem shufB_spec (c n : Int) (h0 : 0 ≤ c) (h1 : c < M64) (hn : 1 ≤ n) (hn2 : n ≤ 512) : random_below.f c n = some (shufB c n) ∧ 0 ≤ (shufB c n).2 ∧ (shufB c n).2 < n ∧ 0 ≤ (shufB c n).1 ∧ (shufB c n).1 < M64 := by
  obtain ⟨s, j, h, a⟩ := rb_total c n h0 h1 hn hn2
  unfold shufB
  rw [h]
  exact ⟨rfl, a⟩
def swapAt (l : List Int) (i j : Int) : List Int := (l.set i.toNat (rd l j)).set j.toNat (rd l i)
def shuf : Nat → Int → List Int → Int × List Int
  | 0, c, l => (c, l)
  | i + 1, c, l => shuf i (shufB c ((i : Int) + 2)).1 (swapAt l ((i : Int) + 1) (shufB c ((i : Int) + 2)).2)
theorem swapAt_length (l : List Int) (i j : Int) : (swapAt l i j).length = l.length := by simp [swapAt]
theorem shuf_prog (n : Nat) (hn : n ≤ 512) : ∀ (i : Nat) (c : Int) (l : List Int), i < n → 0 ≤ c → c < M64 → l.length = n →
    Ev (fun k => random_Shuffle.l1 k c l i) ((shuf i c l).1, (shuf i c l).2, 0) := by
  intro i
  induction i with
  | zero => intro c l hi h0 h1 hl; exact Ev.step (f := fun _ => some (c, l, 0)) (fun k => by simp only [random_Shuffle.l1]; rw [if_neg (by simp)]) (Ev.now _)
  | succ i ih =>
    intro c l hi h0 h1 hl
    obtain ⟨hb, j0, j1, s0, s1⟩ := shufB_spec c ((i : Int) + 2) h0 h1 (by omega) (by omega)
    refine Ev.step (f := fun k => random_Shuffle.l1 k (shufB c ((i : Int) + 2)).1 (swapAt l ((i : Int) + 1) (shufB c ((i : Int) + 2)).2) i) (fun k => ?_) (ih _ _ (by omega) s0 s1 (by rw [swapAt_length, hl]))
    simp only [random_Shuffle.l1]
    rw [if_pos (by omega), wrap64_in (by omega), show (((i + 1 : Nat) : Int) + 1) = (i : Int) + 2 by omega, hb]
    simp only [Option.bind_some]
    rw [if_pos j0, if_pos (by omega), if_pos (by omega), if_pos (by omega), wrap64_in (by omega)]
    have e : ((i + 1 : Nat) : Int) = (i : Int) + 1 := by omega
    rw [e, show (i : Int) + 1 - 1 = i by omega]
    rfl
theorem shuf_ref (n : Nat) (hn : n ≤ 512) : ∀ (i : Nat) (c : Int) (l : List Int), i < n → 0 ≤ c → c < M64 → l.length = n →
    Ev (fun k => downpourref06_Shuffle.l1 k c l i) (shuf i c l) := by
  intro i
  induction i with
  | zero => intro c l hi h0 h1 hl; exact Ev.step (f := fun _ => some (c, l)) (fun k => by simp only [downpourref06_Shuffle.l1]; rw [if_neg (by simp)]) (Ev.now _)
  | succ i ih =>
    intro c l hi h0 h1 hl
    obtain ⟨hb, j0, j1, s0, s1⟩ := shufB_spec c ((i : Int) + 2) h0 h1 (by omega) (by omega)
    refine Ev.step (f := fun k => (downpourref06_Below.f k c ((i : Int) + 2)).bind fun b => if 0 ≤ b.2 ∧ b.2 < n then downpourref06_Shuffle.l1 k b.1 (swapAt l ((i : Int) + 1) b.2) i else none) (fun k => ?_)
      (Ev.bind (ref_below_ev c _ (by omega) (by omega) hb) (Ev.congr (fun k => if_pos ⟨j0, by omega⟩) (ih _ _ (by omega) s0 s1 (by rw [swapAt_length, hl]))))
    simp only [downpourref06_Shuffle.l1]
    rw [if_pos (by omega), wrap64_in (by omega), show (((i + 1 : Nat) : Int) + 1) = (i : Int) + 2 by omega]
    congr 1
    funext b
    rw [if_pos (by omega), if_pos (by omega)]
    have e : ((i + 1 : Nat) : Int) = (i : Int) + 1 := by omega
    by_cases hb0 : 0 ≤ b.2
    · rw [if_pos hb0]
      by_cases hb1 : b.2 < (l.length : Int)
      · rw [if_pos hb1, if_pos ⟨hb0, by omega⟩, wrap64_in (by omega), e, show (i : Int) + 1 - 1 = i by omega]; rfl
      · rw [if_neg hb1, if_neg (by omega)]
    · rw [if_neg hb0, if_neg (by omega)]
def shuffle (c : Int) (n : Nat) : Int × List Int := shuf (n - 1) c (ints n)
theorem rows_prog (c : Int) (n : Nat) (hn : n ≤ 512) {r : Int × List Int × Int} (h : Ev (fun k => random_Shuffle.l1 k c (ints n) ((n : Int) - 1)) r) : ∀ (d x : Nat), x + d = n →
    Ev (fun k => random_Shuffle.l0 k c n (ints x) n x) r := by
  intro d
  induction d with
  | zero =>
    intro x hx
    obtain rfl : x = n := by omega
    refine Ev.step (f := fun k => random_Shuffle.l1 k c (ints x) ((x : Int) - 1)) (fun k => ?_) h
    simp only [random_Shuffle.l0]
    rw [if_neg (by omega), wrap64_in (by omega)]
  | succ d ih =>
    intro x hx
    refine Ev.step (f := fun k => random_Shuffle.l0 k c n (ints (x + 1)) n ((x + 1 : Nat) : Int)) (fun k => ?_) (ih (x + 1) (by omega))
    simp only [random_Shuffle.l0]
    rw [if_pos (by omega), if_pos (by rw [ints_length]; omega), wrap64_in (by omega), ints_succ]
    rfl
theorem rows_ref (c : Int) (n : Nat) (hn : n ≤ 512) {r : Int × List Int} (h : Ev (fun k => downpourref06_Shuffle.l1 k c (ints n) ((n : Int) - 1)) r) : ∀ (d x : Nat), x + d = n →
    Ev (fun k => downpourref06_Shuffle.l0 k c n (ints x) x) r := by
  intro d
  induction d with
  | zero =>
    intro x hx
    obtain rfl : x = n := by omega
    refine Ev.step (f := fun k => downpourref06_Shuffle.l1 k c (ints x) ((x : Int) - 1)) (fun k => ?_) h
    simp only [downpourref06_Shuffle.l0]
    rw [if_neg (by omega), wrap64_in (by omega)]
  | succ d ih =>
    intro x hx
    refine Ev.step (f := fun k => downpourref06_Shuffle.l0 k c n (ints (x + 1)) ((x + 1 : Nat) : Int)) (fun k => ?_) (ih (x + 1) (by omega))
    simp only [downpourref06_Shuffle.l0]
    rw [if_pos (by omega), if_pos (by rw [ints_length]; omega), wrap64_in (by omega), ints_succ]
    rfl
theorem sized_eq (n : Int) : random_sized.f n = some (decide (1 ≤ n) && decide (n ≤ 512)) := by
  unfold random_sized.f
  by_cases h : n ≥ 1
  · rw [if_pos h, decide_eq_true (show 1 ≤ n from h)]; rfl
  · rw [if_neg h, decide_eq_false (show ¬ 1 ≤ n from h)]; rfl
theorem Shuffle_prog (c : Int) (n : Nat) (h0 : 0 ≤ c) (h1 : c < M64) (hn : 1 ≤ n) (hn2 : n ≤ 512) : Ev (fun k => random_Shuffle.f k c n) ((shuffle c n).1, (shuffle c n).2, 0) := by
  have h := shuf_prog n hn2 (n - 1) c (ints n) (by omega) h0 h1 (ints_length n)
  rw [show (((n - 1 : Nat)) : Int) = (n : Int) - 1 by omega] at h
  refine Ev.congr (fun k => ?_) (rows_prog c n hn2 h n 0 (by omega))
  unfold random_Shuffle.f
  rw [sized_eq, decide_eq_true (show (1 : Int) ≤ n by omega), decide_eq_true (show (n : Int) ≤ 512 by omega)]
  rfl
theorem Shuffle_refused (c n : Int) (h : ¬ (1 ≤ n ∧ n ≤ 512)) (k : Nat) : random_Shuffle.f k c n = some (0, [], 2) := by
  unfold random_Shuffle.f
  rw [sized_eq]
  have : (decide (1 ≤ n) && decide (n ≤ 512)) = false := by
    rw [Bool.and_eq_false_iff]; simp only [decide_eq_false_iff_not]; omega
  rw [this]
  rfl
theorem Shuffle_ref (c : Int) (n : Nat) (h0 : 0 ≤ c) (h1 : c < M64) (hn : 1 ≤ n) (hn2 : n ≤ 512) : Ev (fun k => downpourref06_Shuffle.f k c n) (shuffle c n) := by
  have h := shuf_ref n hn2 (n - 1) c (ints n) (by omega) h0 h1 (ints_length n)
  rw [show (((n - 1 : Nat)) : Int) = (n : Int) - 1 by omega] at h
  exact rows_ref c n hn2 h n 0 (by omega)
/-! ### what an order is -/
theorem swapAt_perm (l : List Int) (i j : Int) (hi : 0 ≤ i) (hi1 : i < l.length) (hj : 0 ≤ j) (hj1 : j < l.length) : (swapAt l i j).Perm l := by
  obtain ⟨a, rfl⟩ := Int.eq_ofNat_of_zero_le hi
  obtain ⟨b, rfl⟩ := Int.eq_ofNat_of_zero_le hj
  have ha : a < l.length := by omega
  have hb : b < l.length := by omega
  have e : swapAt l a b = (l.set a l[b]).set b l[a] := by
    unfold swapAt rd
    simp [List.getD_eq_getElem?_getD, ha, hb]
  rw [e]
  exact List.set_set_perm ha hb
theorem shuf_perm (n : Nat) (hn : n ≤ 512) : ∀ (i : Nat) (c : Int) (l : List Int), i < n → 0 ≤ c → c < M64 → l.length = n → (shuf i c l).2.Perm l ∧ 0 ≤ (shuf i c l).1 ∧ (shuf i c l).1 < M64 := by
  intro i
  induction i with
  | zero => intro c l _ h0 h1 _; exact ⟨List.Perm.refl _, h0, h1⟩
  | succ i ih =>
    intro c l hi h0 h1 hl
    obtain ⟨hb, j0, j1, s0, s1⟩ := shufB_spec c ((i : Int) + 2) h0 h1 (by omega) (by omega)
    have h := ih (shufB c ((i : Int) + 2)).1 (swapAt l ((i : Int) + 1) (shufB c ((i : Int) + 2)).2) (by omega) s0 s1 (by rw [swapAt_length, hl])
    exact ⟨h.1.trans (swapAt_perm l _ _ (by omega) (by omega) j0 (by omega)), h.2⟩
theorem shuffle_perm (c : Int) (n : Nat) (h0 : 0 ≤ c) (h1 : c < M64) (hn : 1 ≤ n) (hn2 : n ≤ 512) : (shuffle c n).2.Perm (ints n) := (shuf_perm n hn2 (n - 1) c (ints n) (by omega) h0 h1 (ints_length n)).1
end Go.Proofs.Ytaofanhdmfdlmaa.Print
