import Derived.Test.YtaofanhdmfdlmaaNrows4
import Derived.Test.YtaofanhdmfdlmaaNrows2
import Derived.Test.YtaofanhdmfdlmaaNrows7
import Derived.Test.YtaofanhdmfdlmaaNrows5
import Derived.Test.YtaofanhdmfdlmaaNrows11
import Derived.Test.YtaofanhdmfdlmaaNrows8
import Derived.Test.YtaofanhdmfdlmaaNrows1
import Derived.Laws.BitsAllLaws
import Derived.Test.YtaofanhdmfdlmaaNrows9
import Derived.Test.YtaofanhdmfdlmaaNrows13
import Derived.Test.YtaofanhdmfdlmaaNrows6
/-
What is proved: the numbers of a state, by the program and by the reference, are the same; a number is always found. Condition: the state is a uint64, 1 ≤ n ≤ 512.
-/
namespace Go.Proofs.Ytaofanhdmfdlmaa.Print
open Go Go.RowKit Go.Proofs.YtaofanhdmfdlmaaW.PrintWords Go.Proofs.YtaofanhdmfdlmaaW.PrintLast Go.Proofs.YtaofanhdmfdlmaaW.PrintMore
set_option linter.unusedVariables false

def M64 : Int := 18446744073709551616
theorem u64_wrap (x : Int) : IntKind.u64.wrap x = x % M64 := by rw [IntKind.wrap_u64]; rfl
theorem rb_nx_eq (c : Int) : rb_nx c = (c + 11400714819323198485) % M64 := u64_wrap _
theorem rb_nx_range (c : Int) : 0 ≤ rb_nx c ∧ rb_nx c < M64 := by rw [rb_nx_eq]; unfold M64; omega
def mixv (z : Int) : Int := (random_mixed.f z).getD 0
theorem rb_mx_eq (c : Int) : rb_mx c = mixv (rb_nx c) := rfl
theorem mixv_zero : mixv 0 = 0 := by decide +kernel
theorem rb_rest_range (n : Int) (h1 : 1 ≤ n) (h2 : n ≤ 512) : 0 ≤ rb_rest n ∧ rb_rest n < 512 := by
  unfold rb_rest rb_res
  split
  · omega
  · have z1 := Int.emod_nonneg 18446744073709551616 (show n ≠ 0 by omega); have z2 := Int.emod_lt_of_pos 18446744073709551616 (show 0 < n by omega); omega
theorem rb_acc_iff (n x : Int) (h1 : 1 ≤ n) (h2 : n ≤ 512) (hx : 0 ≤ x ∧ x < M64) : rb_acc n x = decide (x ≤ M64 - 1 - rb_rest n) := by
  have hr := rb_rest_range n h1 h2
  unfold rb_acc
  generalize rb_rest n = r at *
  rw [u64_wrap]
  unfold M64 at *
  rw [Bool.eq_iff_iff]
  simp only [Bool.or_eq_true, decide_eq_true_eq]
  omega
theorem rb_acc_zero (n : Int) (h1 : 1 ≤ n) (h2 : n ≤ 512) : rb_acc n 0 = true := by
  have hr := rb_rest_range n h1 h2
  rw [rb_acc_iff n 0 h1 h2 (by unfold M64; omega)]
  unfold M64; simp; omega
theorem rb_go_some (n : Int) (h1 : 1 ≤ n) (h2 : n ≤ 512) : ∀ (m k : Nat) (c : Int), 0 ≤ c → c < M64 → 1 ≤ m → m ≤ k → (c + m * 11400714819323198485) % M64 = 0 →
    ∃ s j, rb_go k c n = some (s, j) ∧ 0 ≤ j ∧ j < n ∧ 0 ≤ s ∧ s < M64 := by
  intro m
  induction m with
  | zero => intro k c _ _ h; omega
  | succ m ih =>
    intro k c hc0 hc1 _ hk he
    obtain ⟨k, rfl⟩ : ∃ j, k = j + 1 := ⟨k - 1, by omega⟩
    simp only [rb_go]
    by_cases ha : rb_acc n (rb_mx c) = true
    · rw [if_pos ha]
      exact ⟨_, _, rfl, Int.emod_nonneg _ (by omega), Int.emod_lt_of_pos _ (by omega), (rb_nx_range c).1, (rb_nx_range c).2⟩
    · rw [if_neg ha]
      rcases Nat.eq_zero_or_pos m with h0 | h0
      · subst h0
        exfalso; apply ha
        have : rb_nx c = 0 := by rw [rb_nx_eq, ← he]; congr 1
        rw [rb_mx_eq, this, mixv_zero]
        exact rb_acc_zero n h1 h2
      · refine ih k (rb_nx c) (rb_nx_range c).1 (rb_nx_range c).2 h0 (by omega) ?_
        rw [rb_nx_eq, ← he]
        unfold M64
        omega
/-- How many steps it is to the state 0. -/
def rb_way (c : Int) : Nat := if (18446744073709551616 - c) * 17428512612931826493 % M64 = 0 then 18446744073709551616 else ((18446744073709551616 - c) * 17428512612931826493 % M64).toNat
theorem rb_way_eq (c q r : Int) (h : (18446744073709551616 - c) * 17428512612931826493 = 18446744073709551616 * q + r) :
    c + r * 11400714819323198485 = 18446744073709551616 * (1 + (18446744073709551616 - c) * 10771413168148108919 - q * 11400714819323198485) := by omega
theorem rb_way_spec (c : Int) (h0 : 0 ≤ c) (h1 : c < M64) : 1 ≤ rb_way c ∧ rb_way c ≤ rb_fuel ∧ (c + rb_way c * 11400714819323198485) % M64 = 0 := by
  unfold M64 at h1
  have e := rb_way_eq c _ _ (Int.mul_ediv_add_emod ((18446744073709551616 - c) * 17428512612931826493) 18446744073709551616).symm
  have z1 := Int.emod_nonneg ((18446744073709551616 - c) * 17428512612931826493) (show (18446744073709551616 : Int) ≠ 0 by decide)
  have z2 := Int.emod_lt_of_pos ((18446744073709551616 - c) * 17428512612931826493) (show (0 : Int) < 18446744073709551616 by decide)
  unfold rb_way rb_fuel M64
  generalize (18446744073709551616 - c) * 17428512612931826493 / 18446744073709551616 = q at *
  generalize (18446744073709551616 - c) * 17428512612931826493 % 18446744073709551616 = r at *
  generalize 1 + (18446744073709551616 - c) * 10771413168148108919 - q * 11400714819323198485 = y at *
  by_cases h : r = 0
  · rw [if_pos h]
    refine ⟨by decide, by decide, ?_⟩
    subst h
    have e2 : c = 18446744073709551616 * y := by omega
    rw [e2]
    omega
  · rw [if_neg h]
    obtain ⟨m, rfl⟩ := Int.eq_ofNat_of_zero_le z1
    rw [Int.toNat_natCast]
    refine ⟨by omega, by omega, ?_⟩
    rw [e]
    exact Int.mul_emod_right _ _
theorem rb_total (c n : Int) (h0 : 0 ≤ c) (h1 : c < M64) (hn : 1 ≤ n) (hn2 : n ≤ 512) : ∃ s j, random_below.f c n = some (s, j) ∧ 0 ≤ j ∧ j < n ∧ 0 ≤ s ∧ s < M64 := by
  obtain ⟨a, b, d⟩ := rb_way_spec c h0 h1
  unfold random_below.f
  rw [if_pos ⟨hn, hn2⟩]
  exact rb_go_some n hn hn2 _ _ c h0 h1 a b d
end Go.Proofs.Ytaofanhdmfdlmaa.Print

/-
What is proved: an order of the numbers below n, and so many of them, by the program and by the reference, are the same. Condition: the state is a uint64, 1 ≤ n ≤ 512.
-/

namespace Go.Proofs.Ytaofanhdmfdlmaa.Print
open Go Go.RowKit Go.Proofs.YtaofanhdmfdlmaaW.PrintWords Go.Proofs.YtaofanhdmfdlmaaW.PrintLast Go.Proofs.YtaofanhdmfdlmaaW.PrintMore
set_option linter.unusedVariables false

theorem wrap64_in {x : Int} (h : -9223372036854775808 ≤ x ∧ x ≤ 9223372036854775807) : wrap64 x = x := IntWalk.wrap64_in x h
theorem ref_mixed (z : Int) (h0 : 0 ≤ z) (h1 : z < M64) : downpourref06_Mixed.f z = some (mixv z) := by
  unfold M64 at h1
  have q2 : ∀ y d : Int, 1 ≤ d → IntKind.u64.wrap (Int.tdiv (IntKind.u64.wrap y) d) = IntKind.u64.wrap y / d := fun y d hd => by
    refine IntWalk.u64_quo _ d ⟨?_, ?_, hd⟩ <;> rw [u64_wrap] <;> unfold M64 <;> omega
  unfold downpourref06_Mixed.f mixv random_mixed.f
  simp only [Option.getD_some]
  rw [IntWalk.u64_quo z 1073741824 ⟨h0, by omega, by omega⟩, q2 _ _ (by omega), q2 _ _ (by omega)]
theorem ref_rest (n : Int) (h1 : 1 ≤ n) (h2 : n ≤ 512) : downpourref06_rest.f n = some (rb_rest n) := by
  unfold downpourref06_rest.f
  rw [if_neg (by omega)]
  congr 1
  have a := Int.emod_nonneg 18446744073709551615 (show n ≠ 0 by omega)
  have b := Int.emod_lt_of_pos 18446744073709551615 (show 0 < n by omega)
  rw [IntWalk.u64_in _ (by omega), IntWalk.rem_in _ _ (by omega), Int.emod_add_emod]
  unfold rb_rest rb_res
  by_cases h : n = 1
  · rw [if_pos h, h]; rfl
  · rw [if_neg h]; rfl
theorem ref_below_go (n : Int) (h1 : 1 ≤ n) (h2 : n ≤ 512) : ∀ (k : Nat) (c : Int), downpourref06_Below.l0 k c n (M64 - 1 - rb_rest n) = rb_go k c n := by
  intro k
  induction k with
  | zero => intro c; rfl
  | succ k ih =>
    intro c
    have hr := rb_nx_range c
    have e : IntKind.u64.wrap (c + 11400714819323198485) = rb_nx c := rfl
    simp only [downpourref06_Below.l0, rb_go, e, ref_mixed _ hr.1 hr.2, Option.bind_some, ← rb_mx_eq]
    have hm := rb_mx_range c
    rw [rb_acc_iff n _ h1 h2 ⟨hm.1, by unfold M64; omega⟩]
    have hu : IntKind.u64.wrap n = n := IntWalk.u64_in _ (by omega)
    have a := Int.emod_nonneg (rb_mx c) (show n ≠ 0 by omega)
    have b := Int.emod_lt_of_pos (rb_mx c) (show 0 < n by omega)
    by_cases hc : rb_mx c ≤ M64 - 1 - rb_rest n
    · rw [if_pos hc, hu, if_neg (by omega), IntWalk.rem_in _ _ hm.1, wrap64_in (by omega), if_pos (decide_eq_true hc)]
    · rw [if_neg hc, if_neg (by rw [decide_eq_false hc]; decide)]; exact ih _
theorem ref_below_k (k : Nat) (c n : Int) (h1 : 1 ≤ n) (h2 : n ≤ 512) : downpourref06_Below.f k c n = rb_go k c n := by
  have hr := rb_rest_range n h1 h2
  unfold downpourref06_Below.f
  rw [IntWalk.u64_in n (by omega), ref_rest n h1 h2]
  simp only [Option.bind_some]
  have e : IntKind.u64.wrap (18446744073709551615 - rb_rest n) = M64 - 1 - rb_rest n := by rw [IntWalk.u64_in _ (by omega)]; unfold M64; omega
  rw [e, ref_below_go n h1 h2]
theorem below_go (c n : Int) (h1 : 1 ≤ n) (h2 : n ≤ 512) {r : Int × Int} (h : random_below.f c n = some r) : ∃ k, rb_go k c n = some r := by
  unfold random_below.f at h
  rw [if_pos ⟨h1, h2⟩] at h
  exact ⟨_, h⟩
theorem ref_below_ev (c n : Int) (h1 : 1 ≤ n) (h2 : n ≤ 512) {r : Int × Int} (h : random_below.f c n = some r) : Ev (fun k => downpourref06_Below.f k c n) r := by
  obtain ⟨k, hk⟩ := below_go c n h1 h2 h
  exact Ev.of (fun k => downpourref06_Below.mono c n k) (k := k) (by rw [ref_below_k k c n h1 h2, hk])

/-! ### orders -/
def ints (n : Nat) : List Int := (List.range n).map fun i : Nat => (i : Int)
theorem ints_length (n : Nat) : (ints n).length = n := by simp [ints]
theorem ints_succ (n : Nat) : ints (n + 1) = ints n ++ [(n : Int)] := by simp [ints, List.range_succ]
def shufB (c n : Int) : Int × Int := (random_below.f c n).getD (0, 0)
theorem shufB_spec (c n : Int) (h0 : 0 ≤ c) (h1 : c < M64) (hn : 1 ≤ n) (hn2 : n ≤ 512) : random_below.f c n = some (shufB c n) ∧ 0 ≤ (shufB c n).2 ∧ (shufB c n).2 < n ∧ 0 ≤ (shufB c n).1 ∧ (shufB c n).1 < M64 := by
  obtain ⟨s, j, h, a⟩ := rb_total c n h0 h1 hn hn2
  unfold shufB
  rw [h]
  exact ⟨rfl, a⟩
def swapAt (l : List Int) (i j : Int) : List Int := (l.set i.toNat (rd l j)).set j.toNat (rd l i)
def shuf : Nat → Int → List Int → Int × List Int
  | 0, c, l => (c, l)
  | i + 1, c, l => shuf i (shufB c ((i : Int) + 2)).1 (swapAt l ((i : Int) + 1) (shufB c ((i : Int) + 2)).2)
theorem swapAt_length (l : List Int) (i j : Int) : (swapAt l i j).length = l.length := by simp [swapAt]
theorem shuf_prog (n : Nat) (hn : n ≤ 512) : ∀ (i : Nat) (c : Int) (l : List Int), i < n → 0 ≤ c → c < M64 → l.length = n →
    Ev (fun k => random_Shuffle.l1 k c l i) ((shuf i c l).1, (shuf i c l).2, 0) := by
  intro i
  induction i with
  | zero => intro c l hi h0 h1 hl; exact Ev.step (f := fun _ => some (c, l, 0)) (fun k => by simp only [random_Shuffle.l1]; rw [if_neg (by simp)]) (Ev.now _)
  | succ i ih =>
    intro c l hi h0 h1 hl
    obtain ⟨hb, j0, j1, s0, s1⟩ := shufB_spec c ((i : Int) + 2) h0 h1 (by omega) (by omega)
    refine Ev.step (f := fun k => random_Shuffle.l1 k (shufB c ((i : Int) + 2)).1 (swapAt l ((i : Int) + 1) (shufB c ((i : Int) + 2)).2) i) (fun k => ?_) (ih _ _ (by omega) s0 s1 (by rw [swapAt_length, hl]))
    simp only [random_Shuffle.l1]
    rw [if_pos (by omega), wrap64_in (by omega), show (((i + 1 : Nat) : Int) + 1) = (i : Int) + 2 by omega, hb]
    simp only [Option.bind_some]
    rw [if_pos j0, if_pos (by omega), if_pos (by omega), if_pos (by omega), wrap64_in (by omega)]
    have e : ((i + 1 : Nat) : Int) = (i : Int) + 1 := by omega
    rw [e, show (i : Int) + 1 - 1 = i by omega]
    rfl
theorem shuf_ref (n : Nat) (hn : n ≤ 512) : ∀ (i : Nat) (c : Int) (l : List Int), i < n → 0 ≤ c → c < M64 → l.length = n →
    Ev (fun k => downpourref06_Shuffle.l1 k c l i) (shuf i c l) := by
  intro i
  induction i with
  | zero => intro c l hi h0 h1 hl; exact Ev.step (f := fun _ => some (c, l)) (fun k => by simp only [downpourref06_Shuffle.l1]; rw [if_neg (by simp)]) (Ev.now _)
  | succ i ih =>
    intro c l hi h0 h1 hl
    obtain ⟨hb, j0, j1, s0, s1⟩ := shufB_spec c ((i : Int) + 2) h0 h1 (by omega) (by omega)
    refine Ev.step (f := fun k => (downpourref06_Below.f k c ((i : Int) + 2)).bind fun b => if 0 ≤ b.2 ∧ b.2 < n then downpourref06_Shuffle.l1 k b.1 (swapAt l ((i : Int) + 1) b.2) i else none) (fun k => ?_)
      (Ev.bind (ref_below_ev c _ (by omega) (by omega) hb) (Ev.congr (fun k => if_pos ⟨j0, by omega⟩) (ih _ _ (by omega) s0 s1 (by rw [swapAt_length, hl]))))
    simp only [downpourref06_Shuffle.l1]
    rw [if_pos (by omega), wrap64_in (by omega), show (((i + 1 : Nat) : Int) + 1) = (i : Int) + 2 by omega]
    congr 1
    funext b
    rw [if_pos (by omega), if_pos (by omega)]
    have e : ((i + 1 : Nat) : Int) = (i : Int) + 1 := by omega
    by_cases hb0 : 0 ≤ b.2
    · rw [if_pos hb0]
      by_cases hb1 : b.2 < (l.length : Int)
      · rw [if_pos hb1, if_pos ⟨hb0, by omega⟩, wrap64_in (by omega), e, show (i : Int) + 1 - 1 = i by omega]; rfl
      · rw [if_neg hb1, if_neg (by omega)]
    · rw [if_neg hb0, if_neg (by omega)]
def shuffle (c : Int) (n : Nat) : Int × List Int := shuf (n - 1) c (ints n)
theorem rows_prog (c : Int) (n : Nat) (hn : n ≤ 512) {r : Int × List Int × Int} (h : Ev (fun k => random_Shuffle.l1 k c (ints n) ((n : Int) - 1)) r) : ∀ (d x : Nat), x + d = n →
    Ev (fun k => random_Shuffle.l0 k c n (ints x) n x) r := by
  intro d
  induction d with
  | zero =>
    intro x hx
    obtain rfl : x = n := by omega
    refine Ev.step (f := fun k => random_Shuffle.l1 k c (ints x) ((x : Int) - 1)) (fun k => ?_) h
    simp only [random_Shuffle.l0]
    rw [if_neg (by omega), wrap64_in (by omega)]
  | succ d ih =>
    intro x hx
    refine Ev.step (f := fun k => random_Shuffle.l0 k c n (ints (x + 1)) n ((x + 1 : Nat) : Int)) (fun k => ?_) (ih (x + 1) (by omega))
    simp only [random_Shuffle.l0]
    rw [if_pos (by omega), if_pos (by rw [ints_length]; omega), wrap64_in (by omega), ints_succ]
    rfl
theorem rows_ref (c : Int) (n : Nat) (hn : n ≤ 512) {r : Int × List Int} (h : Ev (fun k => downpourref06_Shuffle.l1 k c (ints n) ((n : Int) - 1)) r) : ∀ (d x : Nat), x + d = n →
    Ev (fun k => downpourref06_Shuffle.l0 k c n (ints x) x) r := by
  intro d
  induction d with
  | zero =>
    intro x hx
    obtain rfl : x = n := by omega
    refine Ev.step (f := fun k => downpourref06_Shuffle.l1 k c (ints x) ((x : Int) - 1)) (fun k => ?_) h
    simp only [downpourref06_Shuffle.l0]
    rw [if_neg (by omega), wrap64_in (by omega)]
  | succ d ih =>
    intro x hx
    refine Ev.step (f := fun k => downpourref06_Shuffle.l0 k c n (ints (x + 1)) ((x + 1 : Nat) : Int)) (fun k => ?_) (ih (x + 1) (by omega))
    simp only [downpourref06_Shuffle.l0]
    rw [if_pos (by omega), if_pos (by rw [ints_length]; omega), wrap64_in (by omega), ints_succ]
    rfl
theorem sized_eq (n : Int) : random_sized.f n = some (decide (1 ≤ n) && decide (n ≤ 512)) := by
  unfold random_sized.f
  by_cases h : n ≥ 1
  · rw [if_pos h, decide_eq_true (show 1 ≤ n from h)]; rfl
  · rw [if_neg h, decide_eq_false (show ¬ 1 ≤ n from h)]; rfl
theorem Shuffle_prog (c : Int) (n : Nat) (h0 : 0 ≤ c) (h1 : c < M64) (hn : 1 ≤ n) (hn2 : n ≤ 512) : Ev (fun k => random_Shuffle.f k c n) ((shuffle c n).1, (shuffle c n).2, 0) := by
  have h := shuf_prog n hn2 (n - 1) c (ints n) (by omega) h0 h1 (ints_length n)
  rw [show (((n - 1 : Nat)) : Int) = (n : Int) - 1 by omega] at h
  refine Ev.congr (fun k => ?_) (rows_prog c n hn2 h n 0 (by omega))
  unfold random_Shuffle.f
  rw [sized_eq, decide_eq_true (show (1 : Int) ≤ n by omega), decide_eq_true (show (n : Int) ≤ 512 by omega)]
  rfl
theorem Shuffle_ref (c : Int) (n : Nat) (h0 : 0 ≤ c) (h1 : c < M64) (hn : 1 ≤ n) (hn2 : n ≤ 512) : Ev (fun k => downpourref06_Shuffle.f k c n) (shuffle c n) := by
  have h := shuf_ref n hn2 (n - 1) c (ints n) (by omega) h0 h1 (ints_length n)
  rw [show (((n - 1 : Nat)) : Int) = (n : Int) - 1 by omega] at h
  exact rows_ref c n hn2 h n 0 (by omega)
/-! ### what an order is -/
theorem swapAt_perm (l : List Int) (i j : Int) (hi : 0 ≤ i) (hi1 : i < l.length) (hj : 0 ≤ j) (hj1 : j < l.length) : (swapAt l i j).Perm l := by
  obtain ⟨a, rfl⟩ := Int.eq_ofNat_of_zero_le hi
  obtain ⟨b, rfl⟩ := Int.eq_ofNat_of_zero_le hj
  have ha : a < l.length := by omega
  have hb : b < l.length := by omega
  have e : swapAt l a b = (l.set a l[b]).set b l[a] := by
    unfold swapAt rd
    simp [List.getD_eq_getElem?_getD, ha, hb]
  rw [e]
  exact List.set_set_perm ha hb
theorem shuf_perm (n : Nat) (hn : n ≤ 512) : ∀ (i : Nat) (c : Int) (l : List Int), i < n → 0 ≤ c → c < M64 → l.length = n → (shuf i c l).2.Perm l ∧ 0 ≤ (shuf i c l).1 ∧ (shuf i c l).1 < M64 := by
  intro i
  induction i with
  | zero => intro c l _ h0 h1 _; exact ⟨List.Perm.refl _, h0, h1⟩
  | succ i ih =>
    intro c l hi h0 h1 hl
    obtain ⟨hb, j0, j1, s0, s1⟩ := shufB_spec c ((i : Int) + 2) h0 h1 (by omega) (by omega)
    have h := ih (shufB c ((i : Int) + 2)).1 (swapAt l ((i : Int) + 1) (shufB c ((i : Int) + 2)).2) (by omega) s0 s1 (by rw [swapAt_length, hl])
    exact ⟨h.1.trans (swapAt_perm l _ _ (by omega) (by omega) j0 (by omega)), h.2⟩
theorem shuffle_perm (c : Int) (n : Nat) (h0 : 0 ≤ c) (h1 : c < M64) (hn : 1 ≤ n) (hn2 : n ≤ 512) : (shuffle c n).2.Perm (ints n) := (shuf_perm n hn2 (n - 1) c (ints n) (by omega) h0 h1 (ints_length n)).1
end Go.Proofs.Ytaofanhdmfdlmaa.Print

/-
What is proved: so many of an order, by the program and by the reference, are the same; equal rows are found equal. Condition: the state is a uint64, 1 ≤ n ≤ 512, 0 ≤ m ≤ n.
-/
namespace Go.Proofs.Ytaofanhdmfdlmaa.Print
open Go Go.RowKit Go.Proofs.YtaofanhdmfdlmaaW.PrintWords Go.Proofs.YtaofanhdmfdlmaaW.PrintLast Go.Proofs.YtaofanhdmfdlmaaW.PrintMore
set_option linter.unusedVariables false

theorem rd_get (l : List Int) (i : Nat) (h : i < l.length) : rd l (i : Int) = l[i] := by unfold rd; simp [List.getD_eq_getElem?_getD, h]
theorem in_go (x : Int) (l : List Int) (hl : l.length ≤ 512) : ∀ (d i : Nat), i + d = l.length → Ev (fun k => downpourref06_in.l0 k x l l.length i) (decide (x ∈ l.drop i)) := by
  intro d
  induction d with
  | zero =>
    intro i hi
    refine Ev.step (f := fun _ => some (decide (x ∈ l.drop i))) (fun k => ?_) (Ev.now _)
    simp only [downpourref06_in.l0]
    rw [if_neg (by omega), List.drop_eq_nil_of_le (by omega)]
    simp
  | succ d ih =>
    intro i hi
    have hlt : i < l.length := by omega
    have e : l.drop i = l[i] :: l.drop (i + 1) := List.drop_eq_getElem_cons hlt
    have er := rd_get l i hlt
    by_cases hx : l[i] = x
    · refine Ev.step (f := fun _ => some (decide (x ∈ l.drop i))) (fun k => ?_) (Ev.now _)
      simp only [downpourref06_in.l0]
      rw [if_pos (by omega), if_pos (by omega), if_pos (by omega), er, if_pos hx, e]
      simp [hx]
    · have e2 : decide (x ∈ l.drop i) = decide (x ∈ l.drop (i + 1)) := decide_eq_decide.2 (by rw [e, List.mem_cons]; exact ⟨fun h => h.resolve_left (Ne.symm hx), .inr⟩)
      rw [e2]
      refine Ev.step (f := fun k => downpourref06_in.l0 k x l l.length ((i + 1 : Nat) : Int)) (fun k => ?_) (ih (i + 1) (by omega))
      simp only [downpourref06_in.l0]
      rw [if_pos (by omega), if_pos (by omega), if_pos (by omega), er, if_neg hx, wrap64_in (by omega)]
      rfl
theorem in_ev (x : Int) (l : List Int) (m : Nat) (hl : l.length ≤ 512) (hm : m ≤ l.length) : Ev (fun k => downpourref06_in.f k l m x) (decide (x ∈ l.take m)) := by
  have h := in_go x (l.take m) (by rw [List.length_take]; omega) (l.take m).length 0 (by omega)
  rw [List.drop_zero] at h
  refine Ev.congr (fun k => ?_) h
  unfold downpourref06_in.f
  rw [if_pos (by omega), if_pos (by omega)]
  rfl
theorem some_go (n : Nat) (hn : n ≤ 512) (s : Int) (l : List Int) (hl : l.length ≤ 512) (m : Nat) (hm : m ≤ l.length) : ∀ (d i : Nat) (acc : List Int), i + d = n → acc.length ≤ i →
    Ev (fun k => downpourref06_Some.l0 k n m i s l s acc) (s, acc ++ ((List.range' i d).map fun j : Nat => (j : Int)).filter fun x => decide (x ∈ l.take m)) := by
  intro d
  induction d with
  | zero =>
    intro i acc hi _
    refine Ev.step (f := fun _ => some (s, acc)) (fun k => ?_) (by simpa using Ev.now (s, acc))
    simp only [downpourref06_Some.l0]
    rw [if_neg (by omega)]
  | succ d ih =>
    intro i acc hi ha
    refine Ev.step (f := fun k => (downpourref06_in.f k l m i).bind fun t => if t = true then downpourref06_Some.l0 k n m ((i + 1 : Nat) : Int) s l s (acc ++ [(i : Int)]) else downpourref06_Some.l0 k n m ((i + 1 : Nat) : Int) s l s acc) (fun k => ?_) (Ev.bind (in_ev i l m hl hm) ?_)
    · simp only [downpourref06_Some.l0]
      rw [if_pos (by omega), wrap64_in (by omega)]
      congr 1
      funext t
      by_cases ht : t = true
      · rw [if_pos ht, if_pos (by omega), if_pos ht]; rfl
      · rw [if_neg ht, if_neg ht]; rfl
    · rw [List.range'_succ, List.map_cons]
      by_cases hx : (i : Int) ∈ l.take m
      · have e : decide ((i : Int) ∈ l.take m) = true := decide_eq_true hx
        rw [List.filter_cons, if_pos e]
        have h := ih (i + 1) (acc ++ [(i : Int)]) (by omega) (by rw [List.length_append, List.length_singleton]; omega)
        rw [List.append_assoc, List.singleton_append] at h
        exact Ev.congr (fun k => if_pos e) h
      · have e : decide ((i : Int) ∈ l.take m) = false := decide_eq_false hx
        rw [List.filter_cons, if_neg (by rw [e]; decide)]
        exact Ev.congr (fun k => if_neg (by rw [e]; decide)) (ih (i + 1) acc (by omega) (by omega))
theorem ints_sorted (n : Nat) : (ints n).Pairwise (· < ·) := by
  unfold ints
  rw [List.pairwise_map]
  exact List.pairwise_lt_range.imp fun h => by omega
theorem ints_nodup (n : Nat) : (ints n).Nodup := (ints_sorted n).imp fun h => by omega
def few (l : List Int) (m : Nat) : List Int := (l.take m).mergeSort fun x y => decide (x ≤ y)
theorem few_filter (n : Nat) (l : List Int) (hp : l.Perm (ints n)) (m : Nat) : few l m = (ints n).filter fun x => decide (x ∈ l.take m) := by
  have hd : (l.take m).Nodup := (List.take_sublist m l).nodup (hp.nodup_iff.2 (ints_nodup n))
  have hd2 : ((ints n).filter fun x => decide (x ∈ l.take m)).Nodup := List.filter_sublist.nodup (ints_nodup n)
  have p1 : (few l m).Perm ((ints n).filter fun x => decide (x ∈ l.take m)) := by
    refine (List.mergeSort_perm _ _).trans ((List.perm_ext_iff_of_nodup hd hd2).2 fun a => ?_)
    rw [List.mem_filter, decide_eq_true_iff]
    exact ⟨fun h => ⟨hp.mem_iff.1 (List.mem_of_mem_take h), h⟩, fun h => h.2⟩
  refine List.Perm.eq_of_pairwise (le := fun a b : Int => a ≤ b) (fun a b _ _ h1 h2 => by omega) ?_ ?_ p1
  · have h := List.pairwise_mergeSort (le := fun x y : Int => decide (x ≤ y)) (fun a b c h1 h2 => by simp only [decide_eq_true_eq] at *; omega) (fun a b => by simp only [Bool.or_eq_true, decide_eq_true_eq]; omega) (l.take m)
    exact h.imp fun h => by simpa using h
  · exact ((ints_sorted n).sublist List.filter_sublist).imp fun h => by omega
theorem ints_range' (n : Nat) : ((List.range' 0 n).map fun j : Nat => (j : Int)) = ints n := by unfold ints; rw [List.range_eq_range']
theorem shuffle_length (c : Int) (n : Nat) (h0 : 0 ≤ c) (h1 : c < M64) (hn : 1 ≤ n) (hn2 : n ≤ 512) : (shuffle c n).2.length = n := by rw [(shuffle_perm c n h0 h1 hn hn2).length_eq, ints_length]
theorem Some_ref (c : Int) (n m : Nat) (h0 : 0 ≤ c) (h1 : c < M64) (hn : 1 ≤ n) (hn2 : n ≤ 512) (hm : m ≤ n) : Ev (fun k => downpourref06_Some.f k c n m) ((shuffle c n).1, few (shuffle c n).2 m) := by
  have hp := shuffle_perm c n h0 h1 hn hn2
  have hl := shuffle_length c n h0 h1 hn hn2
  have h := some_go n hn2 (shuffle c n).1 (shuffle c n).2 (by omega) m (by omega) n 0 [] (by omega) (by simp)
  rw [ints_range', List.nil_append, ← few_filter n _ hp m] at h
  exact Ev.bind (f := fun k bt => downpourref06_Some.l0 k n m 0 bt.1 bt.2 bt.1 []) (Shuffle_ref c n h0 h1 hn hn2) h
theorem Some_prog (c : Int) (n m : Nat) (h0 : 0 ≤ c) (h1 : c < M64) (hn : 1 ≤ n) (hn2 : n ≤ 512) (hm : m ≤ n) : Ev (fun k => random_Some.f k c n m) ((shuffle c n).1, few (shuffle c n).2 m, 0) := by
  have hl := shuffle_length c n h0 h1 hn hn2
  refine Ev.congr (f := fun k => (random_Shuffle.f k c n).bind fun t => if (m : Int).toNat ≤ t.2.1.length ∧ t.2.2 = 0 then (slices_Sort_int_int.f (t.2.1.take (m : Int).toNat)).bind fun m => some (t.1, m, 0) else none) (fun k => ?_) (Ev.bind (Shuffle_prog c n h0 h1 hn hn2) (Ev.congr (fun k => ?_) (Ev.now _)))
  · unfold random_Some.f
    rw [sized_eq, decide_eq_true (show (1 : Int) ≤ n by omega), decide_eq_true (show (n : Int) ≤ 512 by omega)]
    simp only [Bool.and_self, Option.bind_some]
    rw [if_neg (by rintro (h | h | h); cases h; omega; omega)]
  · rw [if_pos ⟨by simp only [Int.toNat_natCast]; omega, rfl⟩]
    unfold slices_Sort_int_int.f
    rw [if_pos (by rw [List.length_take]; omega), Int.toNat_natCast]
    rfl
theorem few_length (l : List Int) (m : Nat) : (few l m).length = min m l.length := by unfold few; rw [List.length_mergeSort, List.length_take]
end Go.Proofs.Ytaofanhdmfdlmaa.Print

/-
What is proved: the table of the weights' sums and the pick, by the program and by the reference, are the same. Condition: 1 ≤ k ≤ 64.
-/
namespace Go.Proofs.Ytaofanhdmfdlmaa.Print
open Go Go.RowKit Go.Proofs.YtaofanhdmfdlmaaW.PrintWords Go.Proofs.YtaofanhdmfdlmaaW.PrintLast Go.Proofs.YtaofanhdmfdlmaaW.PrintMore
set_option linter.unusedVariables false
theorem Root_all : ∀ i : Fin 64, downpourref07_Root.f 20 ((i.val : Int) + 1) = some (rt ((i.val : Int) + 1)) := by decide +kernel
theorem Root_ev (k : Int) (h1 : 1 ≤ k) (h2 : k ≤ 64) : Ev (fun K => downpourref07_Root.f K k) (rt k) := by
  have h := Root_all ⟨(k - 1).toNat, by omega⟩
  have e : (((k - 1).toNat : Nat) : Int) + 1 = k := by omega
  simp only [e] at h
  exact Ev.of (fun K => downpourref07_Root.mono k K) (k := 20) h
theorem digits_all : ∀ i : Fin 9, downpourref07_digits.f 10 (i.val : Int) = some (Lib.bitLen i.val : Int) := by decide +kernel
theorem digits_ev (t : Int) (h1 : 1 ≤ t) (h2 : t ≤ 8) : Ev (fun K => downpourref07_digits.f K t) (Lib.bitLen t.toNat : Int) := by
  obtain ⟨n, rfl⟩ : ∃ n : Nat, t = (n : Int) := ⟨t.toNat, by omega⟩
  have h := digits_all ⟨n, by omega⟩
  rw [Int.toNat_natCast]
  exact Ev.of (fun K => downpourref07_digits.mono (n : Int) K) (k := 10) h
theorem weight_j0 (k d : Int) (h1 : 1 ≤ k) (h2 : k ≤ 64) (h3 : 1 ≤ d) (h4 : d ≤ k) (t : Int) (ht : rt k = t) (ht1 : 1 ≤ t) (ht2 : t ≤ 8) (b : Int) (hb : wtBase k d = b) (hb1 : 0 ≤ b) (hb2 : b ≤ 4294967296) :
    Ev (fun K => downpourref07_Weight.j0 K k d t (k / t) b) (wt k d) := by
  have hbl := bitLen_small t ht1 ht2
  obtain ⟨r1, r2, r3, r4, r5, r6⟩ := wt_range k d h1 h2 h3 h4 t ht1 ht2 (Lib.bitLen t.toNat : Int) (by omega) (by omega)
  have hdk : 1 ≤ d * k ∧ d * k ≤ 4096 := by
    have y1 : (1 : Int) * 1 ≤ d * k := Int.mul_le_mul h3 h1 (by omega) (by omega)
    have y2 : d * k ≤ 64 * 64 := Int.mul_le_mul (by omega) h2 (by omega) (by omega)
    omega
  have e3 : IntKind.u64.wrap (4294967296 * t) = 4294967296 * t := u64_in (by omega)
  have e4 : IntKind.u64.wrap (wrap64 (d * k)) = d * k := by rw [wrap64_in (by omega), u64_in (by omega)]
  have e5 : IntKind.u64.wrap k = k := u64_in (by omega)
  have e6 : IntKind.u64.wrap t = t := u64_in (by omega)
  have e7 : IntKind.u64.wrap (Lib.bitLen t.toNat : Int) = (Lib.bitLen t.toNat : Int) := u64_in (by omega)
  have e8 : 0 ≤ 4294967296 * t * (Lib.bitLen t.toNat : Int) ∧ 4294967296 * t * (Lib.bitLen t.toNat : Int) ≤ 34359738368 * 64 :=
    ⟨Int.mul_nonneg (by omega) (by omega), Int.mul_le_mul (by omega) (by omega) (by omega) (by omega)⟩
  have e9 : IntKind.u64.wrap (4294967296 * t * (Lib.bitLen t.toNat : Int)) = 4294967296 * t * (Lib.bitLen t.toNat : Int) := u64_in (by omega)
  unfold wt
  rw [ht, hb]
  rcases Int.lt_trichotomy d (k / t) with hq | hq | hq
  · rw [if_pos hq]
    refine Ev.step (f := fun _ => some (b + 4294967296 * t / (d * k))) (fun K => ?_) (Ev.now _)
    simp only [downpourref07_Weight.j0]
    rw [if_pos hq, if_neg (show ¬ d = k / t by omega), e4, e6, e3, if_neg (by omega), tdiv_in (by omega), u64_in (x := 4294967296 * t / (d * k)) (by omega), u64_in (by omega)]
  · rw [if_neg (by omega), if_pos hq]
    refine Ev.step (f := fun K => (downpourref07_digits.f K t).bind fun n => if k = 0 then none else some (IntKind.u64.wrap (b + IntKind.u64.wrap (Int.tdiv (IntKind.u64.wrap (4294967296 * t * IntKind.u64.wrap n)) k)))) (fun K => ?_)
      (Ev.bind (digits_ev t ht1 ht2) (Ev.congr (fun K => ?_) (Ev.now _)))
    · simp only [downpourref07_Weight.j0]
      rw [if_neg (show ¬ d < k / t by omega), if_pos hq]
      simp only [e3, e5, e6]
    · rw [if_neg (by omega), e7, e9, tdiv_in e8.1, u64_in (x := 4294967296 * t * (Lib.bitLen t.toNat : Int) / k) (by omega), u64_in (by omega)]
  · rw [if_neg (by omega), if_neg (by omega)]
    refine Ev.step (f := fun _ => some b) (fun K => ?_) (Ev.now _)
    simp only [downpourref07_Weight.j0]
    rw [if_neg (show ¬ d < k / t by omega), if_neg (show ¬ d = k / t by omega)]
theorem weight_ev (k d : Int) (h1 : 1 ≤ k) (h2 : k ≤ 64) (h3 : 1 ≤ d) (h4 : d ≤ k) : Ev (fun K => downpourref07_Weight.f K k d) (wt k d) := by
  obtain ⟨_, t1, t2⟩ := rt_at k h1 h2
  have e5 : IntKind.u64.wrap k = k := u64_in (by omega)
  have ed : wrap64 (Int.tdiv k (rt k)) = k / rt k := by rw [tdiv_in (by omega)]; have := div_le_self' (show 0 ≤ k by omega) t1; exact wrap64_in (by omega)
  have hbase : 0 ≤ wtBase k d ∧ wtBase k d ≤ 4294967296 := by
    unfold wtBase
    split
    · have y1 : (1 : Int) * 1 ≤ d * (d - 1) := Int.mul_le_mul (by omega) (by omega) (by omega) (by omega)
      exact div_le_self' (by omega) (by omega)
    · exact div_le_self' (by omega) h1
  refine Ev.bind (Root_ev k h1 h2) (Ev.congr (fun K => ?_) (weight_j0 k d h1 h2 h3 h4 _ rfl t1 t2 _ rfl hbase.1 hbase.2))
  rw [if_neg (by omega), e5, if_neg (by omega), ed]
  unfold wtBase at hbase ⊢
  by_cases hd : d > 1
  · rw [if_pos hd] at hbase
    have y1 : (1 : Int) * 1 ≤ d * (d - 1) := Int.mul_le_mul (by omega) (by omega) (by omega) (by omega)
    have y2 : d * (d - 1) ≤ 64 * 64 := Int.mul_le_mul (by omega) (by omega) (by omega) (by omega)
    have e6 : IntKind.u64.wrap (wrap64 (d * wrap64 (d - 1))) = d * (d - 1) := by rw [wrap64_in (x := d - 1) (by omega), wrap64_in (by omega), u64_in (by omega)]
    rw [if_pos hd, if_pos hd, e6, if_neg (by omega), u64_in (by omega)]
  · rw [if_neg hd] at hbase
    rw [if_neg hd, if_neg hd, u64_in (by omega)]
def wtsL (k : Int) (n : Nat) : List Int := (List.range n).map fun i : Nat => wt k ((i + 1 : Nat) : Int)
theorem wtsL_len (k : Int) (n : Nat) : (wtsL k n).length = n := by unfold wtsL; simp
theorem wtsL_succ (k : Int) (n : Nat) : wtsL k (n + 1) = wtsL k n ++ [wt k ((n + 1 : Nat) : Int)] := by unfold wtsL; rw [List.range_succ, List.map_append]; rfl
theorem wtsL_rd (k : Int) (n i : Nat) (h : i < n) : rd (wtsL k n) (i : Int) = wt k ((i + 1 : Nat) : Int) := by
  rw [rd_get _ _ (by rw [wtsL_len]; exact h)]
  unfold wtsL
  simp
theorem tabL_rd (k : Int) (n i : Nat) (h : i < n) : rd (tabL k n) (i : Int) = sm k (i + 1) := by
  rw [rd_get _ _ (by rw [tabL_len]; exact h)]
  unfold tabL
  simp
theorem weights_go (k : Int) (n : Nat) (hk : k = (n : Int)) (h1 : 1 ≤ k) (h2 : k ≤ 64) : ∀ (d i : Nat), i + d = n → Ev (fun K => downpourref07_Weights.l0 K k (wtsL k i) ((i + 1 : Nat) : Int)) (wtsL k n) := by
  intro d
  induction d with
  | zero =>
    intro i hi
    obtain rfl : i = n := by omega
    refine Ev.step (f := fun _ => some (wtsL k i)) (fun K => ?_) (Ev.now _)
    simp only [downpourref07_Weights.l0]
    rw [if_neg (by omega)]
  | succ d ih =>
    intro i hi
    have h := ih (i + 1) (by omega)
    rw [wtsL_succ] at h
    refine Ev.step (f := fun K => (downpourref07_Weight.f K k ((i + 1 : Nat) : Int)).bind fun t => downpourref07_Weights.l0 K k (wtsL k i ++ [t]) ((i + 1 + 1 : Nat) : Int)) (fun K => ?_) (Ev.bind (weight_ev k ((i + 1 : Nat) : Int) h1 h2 (by omega) (by omega)) h)
    simp only [downpourref07_Weights.l0]
    rw [if_pos (by omega)]
    congr 1
    funext t
    rw [if_pos (by rw [wtsL_len]; omega), wrap64_in (by omega)]
    rfl
theorem table_go (k : Int) (n : Nat) (hk : k = (n : Int)) (h1 : 1 ≤ k) (h2 : k ≤ 64) : ∀ (d i : Nat), i + d = n → Ev (fun K => downpourref07_Table.l0 K (tabL k i) (sm k i) (wtsL k n) n i) (tabL k n) := by
  intro d
  induction d with
  | zero =>
    intro i hi
    obtain rfl : i = n := by omega
    refine Ev.step (f := fun _ => some (tabL k i)) (fun K => ?_) (Ev.now _)
    simp only [downpourref07_Table.l0]
    rw [if_neg (by omega)]
  | succ d ih =>
    intro i hi
    have h := ih (i + 1) (by omega)
    have hs := sm_le k h1 h2 (i + 1) (by omega)
    have e : IntKind.u64.wrap (sm k i + rd (wtsL k n) (i : Int)) = sm k (i + 1) := by
      rw [wtsL_rd k n i (by omega)]
      have e : sm k i + wt k ((i + 1 : Nat) : Int) = sm k (i + 1) := rfl
      rw [e]
      exact u64_in (by omega)
    rw [tabL_succ] at h
    refine Ev.step (fun K => ?_) h
    simp only [downpourref07_Table.l0]
    rw [if_pos (by omega), if_pos (by omega), if_pos (by rw [wtsL_len]; omega), if_pos (by rw [tabL_len]; omega), e, wrap64_in (by omega)]
    rfl
theorem Table_ref (k : Int) (n : Nat) (hk : k = (n : Int)) (h1 : 1 ≤ k) (h2 : k ≤ 64) : Ev (fun K => downpourref07_Table.f K k) (tabL k n) := by
  have hw := weights_go k n hk h1 h2 n 0 (by omega)
  have ht := table_go k n hk h1 h2 n 0 (by omega)
  refine Ev.bind (g := fun K => downpourref07_Weights.f K k) (f := fun K t => downpourref07_Table.l0 K ([] : List Int) 0 t (t.length : Int) 0) (Ev.congr (fun K => rfl) hw) (Ev.congr (fun K => ?_) ht)
  rw [wtsL_len]
  rfl
theorem wt_pos (k d : Int) (h1 : 1 ≤ k) (h2 : k ≤ 64) (h3 : 1 ≤ d) (h4 : d ≤ k) : 1 ≤ wt k d := by
  obtain ⟨_, t1, t2⟩ := rt_at k h1 h2
  have hbl := bitLen_small (rt k) t1 t2
  obtain ⟨r1, r2, r3, r4, r5, r6⟩ := wt_range k d h1 h2 h3 h4 (rt k) t1 t2 (Lib.bitLen (rt k).toNat : Int) (by omega) (by omega)
  have hbase : 1 ≤ wtBase k d := by
    unfold wtBase
    split
    · have y1 : (1 : Int) * 1 ≤ d * (d - 1) := Int.mul_le_mul (by omega) (by omega) (by omega) (by omega)
      have y2 : d * (d - 1) ≤ 64 * 64 := Int.mul_le_mul (by omega) (by omega) (by omega) (by omega)
      exact Int.le_ediv_of_mul_le (by omega) (by omega)
    · exact Int.le_ediv_of_mul_le (by omega) (by omega)
  unfold wt
  split
  · omega
  · split
    · omega
    · omega
theorem pick_go (T : List Int) (x : Int) (hl : T.length ≤ 64) (m : Nat) (hm : m < T.length) (h1 : ∀ i, i < m → ¬ rd T (i : Int) > x) (h2 : rd T (m : Int) > x) : ∀ (d i : Nat), i + d = m → Ev (fun K => downpourref07_Pick.l0 K x T T.length i) ((m : Int) + 1) := by
  intro d
  induction d with
  | zero =>
    intro i hi
    obtain rfl : i = m := by omega
    refine Ev.step (f := fun _ => some ((i : Int) + 1)) (fun K => ?_) (Ev.now _)
    simp only [downpourref07_Pick.l0]
    rw [if_pos (by omega), if_pos (by omega), if_pos (by omega), if_pos h2, wrap64_in (by omega)]
  | succ d ih =>
    intro i hi
    refine Ev.step (fun K => ?_) (ih (i + 1) (by omega))
    simp only [downpourref07_Pick.l0]
    rw [if_pos (by omega), if_pos (by omega), if_pos (by omega), if_neg (h1 i (by omega)), wrap64_in (by omega)]
    rfl
theorem tabL_ok (k : Int) (n : Nat) (hk : k = (n : Int)) (h1 : 1 ≤ k) (h2 : k ≤ 64) (x : Int) (hx : 0 ≤ x) : pickOk (tabL k n) x = true := by
  unfold pickOk
  rw [tabL_len]
  have e0 : rd (tabL k n) 0 = sm k 1 := tabL_rd k n 0 (by omega)
  have ep : 0 < sm k 1 := by
    have := wt_pos k 1 h1 h2 (by omega) h1
    show 0 < sm k 0 + wt k ((0 + 1 : Nat) : Int)
    show (0 : Int) < 0 + wt k 1
    omega
  have hr : risesB (tabL k n) = true := by
    unfold risesB
    rw [tabL_len, List.all_eq_true]
    intro i hi
    rw [List.mem_range] at hi
    have w := wt_pos k ((i + 1 + 1 : Nat) : Int) h1 h2 (by omega) (by omega)
    rw [tabL_rd k n i (by omega), show (i : Int) + 1 = ((i + 1 : Nat) : Int) from rfl, tabL_rd k n (i + 1) (by omega)]
    refine decide_eq_true ?_
    show sm k (i + 1) < sm k (i + 1) + wt k ((i + 1 + 1 : Nat) : Int)
    omega
  rw [e0, hr, decide_eq_true (by omega), decide_eq_true (by omega), decide_eq_true ep, decide_eq_true hx]
  rfl
theorem pick_both (k : Int) (n : Nat) (hk : k = (n : Int)) (h1 : 1 ≤ k) (h2 : k ≤ 64) (x : Int) (hx : 0 ≤ x) :
    ∃ m : Nat, 1 ≤ m ∧ m ≤ n ∧ degree_Pick.f (tabL k n) x = some ((m : Int), 0) ∧ Ev (fun K => downpourref07_Pick.f K (tabL k n) x) (m : Int) := by
  have hok := tabL_ok k n hk h1 h2 x hx
  have hlen := tabL_len k n
  have hsn := sm_le k h1 h2 n (by omega)
  have elast : rd (tabL k n) ((n : Int) - 1) = sm k n := by
    have := tabL_rd k n (n - 1) (by omega)
    rw [show (((n - 1 : Nat) : Int)) = (n : Int) - 1 by omega, show n - 1 + 1 = n by omega] at this
    exact this
  have hpos : 0 < sm k n := by
    obtain ⟨j, rfl⟩ : ∃ j, n = j + 1 := ⟨n - 1, by omega⟩
    have w := wt_pos k ((j + 1 : Nat) : Int) h1 h2 (by omega) (by omega)
    have s := sm_le k h1 h2 j (by omega)
    show 0 < sm k j + wt k ((j + 1 : Nat) : Int)
    omega
  obtain ⟨y, hy⟩ : ∃ y, x % sm k n = y := ⟨_, rfl⟩
  have hy1 : y < sm k n := by rw [← hy]; exact Int.emod_lt_of_pos _ hpos
  have hex : (tabL k n).findIdx (fun z => decide (y < z)) < (tabL k n).length := by
    rw [List.findIdx_lt_length]
    refine ⟨sm k n, ?_, decide_eq_true hy1⟩
    rw [← elast, show (n : Int) - 1 = ((n - 1 : Nat) : Int) by omega, rd_get _ _ (by omega)]
    exact List.getElem_mem _
  obtain ⟨m, hm⟩ : ∃ m, (tabL k n).findIdx (fun z => decide (y < z)) = m := ⟨_, rfl⟩
  rw [hm] at hex
  obtain ⟨g1, g2⟩ := (List.findIdx_eq hex).1 hm
  refine ⟨m + 1, by omega, by omega, ?_, ?_⟩
  · unfold degree_Pick.f
    rw [if_pos hok, hlen, elast, hy, hm]
    rfl
  · refine Ev.congr (fun K => ?_) (pick_go (tabL k n) y (by omega) m hex (fun i hi => ?_) ?_ m 0 (by omega))
    · unfold downpourref07_Pick.f
      rw [hlen, wrap64_in (by omega), if_pos (by omega), if_pos (by omega), elast, if_neg (by omega), Int.tmod_eq_emod_of_nonneg hx, hy]
      rfl
    · have := g2 i hi
      rw [rd_get _ _ (by omega)]
      simpa using this
    · rw [rd_get _ _ hex]
      simpa using g1
end Go.Proofs.Ytaofanhdmfdlmaa.Print

/-
What is proved: a row of up to 64 bits from places, by the program and by the reference, is the same word. Condition: 1 ≤ n ≤ 64, each place below n.
-/
namespace Go.Proofs.Ytaofanhdmfdlmaa.Print
open Go Go.RowKit Go.Proofs.YtaofanhdmfdlmaaW.PrintWords Go.Proofs.YtaofanhdmfdlmaaW.PrintLast Go.Proofs.YtaofanhdmfdlmaaW.PrintMore
set_option linter.unusedVariables false
def orAll (a : Nat) (l : List Int) : Nat := l.foldl (fun a p => a ||| 2 ^ p.toNat) a
theorem orAll_lt : ∀ (l : List Int) (a : Nat), a < 2 ^ 64 → (∀ p ∈ l, 0 ≤ p ∧ p < 64) → orAll a l < 2 ^ 64
  | [], a, ha, _ => ha
  | p :: l, a, ha, h => orAll_lt l _ (Nat.or_lt_two_pow ha (Nat.pow_lt_pow_right (by decide) (by have := h p List.mem_cons_self; omega))) fun q hq => h q (List.mem_cons_of_mem _ hq)
theorem orAll_bit : ∀ (l : List Int) (a j : Nat), (∀ p ∈ l, 0 ≤ p) → (orAll a l).testBit j = (a.testBit j || decide ((j : Int) ∈ l))
  | [], a, j, _ => by simp [orAll]
  | p :: l, a, j, h => by
    have hp := h p List.mem_cons_self
    show (orAll (a ||| 2 ^ p.toNat) l).testBit j = _
    rw [orAll_bit l _ j fun q hq => h q (List.mem_cons_of_mem _ hq), Nat.testBit_or, Nat.testBit_two_pow, Bool.or_assoc]
    congr 1
    rw [← Bool.decide_or]
    exact decide_eq_decide.2 (by rw [List.mem_cons]; exact ⟨fun h => h.imp (fun h => by omega) id, fun h => h.imp (fun h => by omega) id⟩)
theorem half_bit (W j : Nat) : 2 * (W >>> (j + 1)) + (if W.testBit j = true then 1 else 0) = W >>> j := by
  rw [Nat.shiftRight_succ, Nat.testBit_eq_decide_div_mod_eq, ← Nat.shiftRight_eq_div_pow]
  by_cases h : W >>> j % 2 = 1
  · rw [if_pos (decide_eq_true h)]; omega
  · rw [if_neg (by rw [decide_eq_true_eq]; exact h)]; omega
theorem shl_one (p : Int) (h0 : 0 ≤ p) (h1 : p < 64) : shl .u64 1 p = ((2 ^ p.toNat : Nat) : Int) := by
  have e : IntKind.u64.bits = 64 := rfl
  unfold shl
  rw [e, Nat.min_eq_left (by omega), Int.one_mul]
  have h : 2 ^ p.toNat < 2 ^ 64 := Nat.pow_lt_pow_right (by decide) (by omega)
  rw [IntKind.wrap_u64]
  have e2 : ((2 : Int) ^ p.toNat) = ((2 ^ p.toNat : Nat) : Int) := by simp
  rw [e2]
  clear e2
  generalize 2 ^ p.toNat = x at *
  omega
theorem fresh_at (n : Int) (h1 : 1 ≤ n) (h2 : n ≤ 64) : bitrow_fresh.f n = some (n, [0]) := by
  have e : wrap64 (Int.tdiv (wrap64 ((wrap64 (n + 64)) - 1)) 64) = 1 := by
    rw [wrap64_in (x := n + 64) (by omega), wrap64_in (x := n + 64 - 1) (by omega), Int.tdiv_eq_ediv_of_nonneg (by omega), wrap64_in (by omega)]
    omega
  unfold bitrow_fresh.f
  rw [e, if_pos (by decide), if_pos (by decide)]
  rfl
theorem bitrow_go (n : Nat) (h1 : 1 ≤ n) (h2 : n ≤ 64) (l : List Int) (hl : l.length ≤ 4096) (hm : ∀ p ∈ l, 0 ≤ p ∧ p < n) : ∀ (d i : Nat), i + d = l.length → ∀ a : Nat, a < 2 ^ 64 →
    Ev (fun k => bitrow_Of.l0 k n l l.length i n [(a : Int)]) ((n : Int), [((orAll a (l.drop i) : Nat) : Int)], 0) := by
  intro d
  induction d with
  | zero =>
    intro i hi a ha
    rw [List.drop_eq_nil_of_le (by omega)]
    refine Ev.step (f := fun _ => some ((n : Int), [(a : Int)], 0)) (fun k => ?_) (Ev.now _)
    simp only [bitrow_Of.l0]
    rw [if_neg (by omega)]
  | succ d ih =>
    intro i hi a ha
    have hlt : i < l.length := by omega
    have er := rd_get l i hlt
    have hp := hm _ (List.getElem_mem hlt)
    rw [List.drop_eq_getElem_cons hlt]
    have hlt2 : 2 ^ (l[i]).toNat < 2 ^ 64 := Nat.pow_lt_pow_right (by decide) (by omega)
    have hd : wrap64 (Int.tdiv l[i] 64) = 0 := by rw [Int.tdiv_eq_ediv_of_nonneg hp.1, wrap64_in (by omega)]; omega
    have hmod : Int.tmod l[i] 64 = l[i] := by rw [Int.tmod_eq_emod_of_nonneg hp.1]; omega
    have hr0 : rd [(a : Int)] 0 = (a : Int) := rfl
    refine Ev.step (fun k => ?_) (ih (i + 1) (by omega) (a ||| 2 ^ (l[i]).toNat) (Nat.or_lt_two_pow ha hlt2))
    simp only [bitrow_Of.l0]
    rw [if_pos (by omega), if_pos (by omega), if_pos (by omega), er, if_neg (by omega), if_neg (by omega), hd, hmod, if_pos (by decide), if_pos (by simp), if_pos hp.1, hr0, shl_one _ hp.1 (by omega), u64_or_nat _ _ (by omega) (by omega), wrap64_in (by omega)]
    rfl
theorem Of_prog (n : Nat) (h1 : 1 ≤ n) (h2 : n ≤ 64) (l : List Int) (hl : l.length ≤ 4096) (hm : ∀ p ∈ l, 0 ≤ p ∧ p < n) : Ev (fun k => bitrow_Of.f k n l) ((n : Int), [((orAll 0 l : Nat) : Int)], 0) := by
  have h := bitrow_go n h1 h2 l hl hm l.length 0 (by omega) 0 (by decide)
  rw [List.drop_zero, show ((0 : Nat) : Int) = 0 from rfl] at h
  refine Ev.congr (fun k => ?_) h
  have e : bitrow_sized.f (n : Int) = some true := by unfold bitrow_sized.f; rw [if_pos (by omega), decide_eq_true (by omega)]
  unfold bitrow_Of.f
  rw [e, Option.bind_some, if_pos rfl, fresh_at n (by omega) (by omega), Option.bind_some]
theorem In_go (x : Int) (l : List Int) (hl : l.length ≤ 4096) : ∀ (d i : Nat), i + d = l.length → Ev (fun k => downpourref01_In.l0 k x l l.length i) (decide (x ∈ l.drop i)) := by
  intro d
  induction d with
  | zero =>
    intro i hi
    refine Ev.step (f := fun _ => some (decide (x ∈ l.drop i))) (fun k => ?_) (Ev.now _)
    simp only [downpourref01_In.l0]
    rw [if_neg (by omega), List.drop_eq_nil_of_le (by omega)]
    simp
  | succ d ih =>
    intro i hi
    have hlt : i < l.length := by omega
    have e : l.drop i = l[i] :: l.drop (i + 1) := List.drop_eq_getElem_cons hlt
    have er := rd_get l i hlt
    by_cases hx : l[i] = x
    · refine Ev.step (f := fun _ => some (decide (x ∈ l.drop i))) (fun k => ?_) (Ev.now _)
      simp only [downpourref01_In.l0]
      rw [if_pos (by omega), if_pos (by omega), if_pos (by omega), er, if_pos hx, e]
      simp [hx]
    · have e2 : decide (x ∈ l.drop i) = decide (x ∈ l.drop (i + 1)) := decide_eq_decide.2 (by rw [e, List.mem_cons]; exact ⟨fun h => h.resolve_left (Ne.symm hx), .inr⟩)
      rw [e2]
      refine Ev.step (f := fun k => downpourref01_In.l0 k x l l.length ((i + 1 : Nat) : Int)) (fun k => ?_) (ih (i + 1) (by omega))
      simp only [downpourref01_In.l0]
      rw [if_pos (by omega), if_pos (by omega), if_pos (by omega), er, if_neg hx, wrap64_in (by omega)]
      rfl
theorem In_ev (x : Int) (l : List Int) (hl : l.length ≤ 4096) : Ev (fun k => downpourref01_In.f k l x) (decide (x ∈ l)) := by
  have h := In_go x l hl l.length 0 (by omega)
  rw [List.drop_zero] at h
  exact Ev.congr (fun k => rfl) h
/-- The bits of a row, one by one. -/
def bitsL (l : List Int) (n : Nat) : List Int := (List.range n).map fun j : Nat => if (j : Int) ∈ l then 1 else 0
theorem bitsL_len (l : List Int) (n : Nat) : (bitsL l n).length = n := by unfold bitsL; simp
theorem bitsL_succ (l : List Int) (n : Nat) : bitsL l (n + 1) = bitsL l n ++ [if (n : Int) ∈ l then 1 else 0] := by unfold bitsL; rw [List.range_succ, List.map_append]; rfl
theorem bitsL_rd (l : List Int) (n j : Nat) (h : j < n) : rd (bitsL l n) (j : Int) = if (j : Int) ∈ l then 1 else 0 := by
  rw [rd_get _ _ (by rw [bitsL_len]; exact h)]
  unfold bitsL
  simp
theorem words_at (n : Nat) (h1 : 1 ≤ n) (h2 : n ≤ 64) : downpourref01_words.f (n : Int) = some 1 := by
  unfold downpourref01_words.f
  rw [wrap64_in (x := (n : Int) + 63) (by omega), Int.tdiv_eq_ediv_of_nonneg (by omega), wrap64_in (by omega)]
  congr 1
  omega
theorem From_go (n : Nat) (h1 : 1 ≤ n) (h2 : n ≤ 64) (l : List Int) (hm : ∀ p ∈ l, 0 ≤ p ∧ p < n) (W : Nat) (hW : W = orAll 0 l) : ∀ j : Nat, j ≤ 64 →
    Ev (fun k => downpourref01_From.l1 k (bitsL l n) 0 ((W >>> j : Nat) : Int) ((j : Int) - 1) n []) ((n : Int), [(W : Int)]) := by
  have hlt : W < 2 ^ 64 := by rw [hW]; exact orAll_lt l 0 (by decide) fun p hp => by have := hm p hp; omega
  have hbit : ∀ j : Nat, W.testBit j = decide ((j : Int) ∈ l) := fun j => by rw [hW, orAll_bit l 0 j fun p hp => (hm p hp).1]; simp
  intro j
  induction j with
  | zero =>
    intro _
    refine Ev.step (f := fun k => downpourref01_From.l0 k (bitsL l n) 1 n [(W : Int)]) (fun k => ?_) (Ev.step (f := fun _ => some ((n : Int), [(W : Int)])) (fun k => ?_) (Ev.now _))
    · simp only [downpourref01_From.l1]
      rw [if_neg (by omega), if_pos (by simp), wrap64_in (by omega)]
      rfl
    · simp only [downpourref01_From.l0]
      rw [bitsL_len, words_at n h1 h2]
      simp only [Option.bind_some]
      rw [if_neg (by omega)]
  | succ j ih =>
    intro hj
    have h2j := half_bit W j
    have hle : W >>> j < 2 ^ 64 := Nat.lt_of_le_of_lt (Nat.shiftRight_le W j) hlt
    have hle2 : W >>> (j + 1) ≤ W >>> j := by omega
    have hidx : wrap64 (wrap64 (64 * 0) + (((j + 1 : Nat) : Int) - 1)) = (j : Int) := by rw [wrap64_in (x := 64 * 0) (by omega), wrap64_in (by omega)]; omega
    have hdec : wrap64 ((((j + 1 : Nat) : Int) - 1) - 1) = (j : Int) - 1 := by rw [wrap64_in (by omega)]; omega
    have hw2 : IntKind.u64.wrap (2 * ((W >>> (j + 1) : Nat) : Int)) = 2 * ((W >>> (j + 1) : Nat) : Int) := by rw [IntKind.wrap_u64]; omega
    refine Ev.step (fun k => ?_) (ih (by omega))
    simp only [downpourref01_From.l1]
    rw [if_pos (by omega), hidx, hdec, hw2, bitsL_len]
    by_cases hjn : j < n
    · rw [if_pos (by omega), if_pos (by omega), bitsL_rd l n j hjn]
      by_cases hb : (j : Int) ∈ l
      · rw [hbit, if_pos (by simpa using hb)] at h2j
        rw [if_pos hb, if_pos rfl, show IntKind.u64.wrap (2 * ((W >>> (j + 1) : Nat) : Int) + 1) = ((W >>> j : Nat) : Int) by rw [IntKind.wrap_u64]; omega]
      · rw [hbit, if_neg (by simpa using hb)] at h2j
        rw [if_neg hb, if_neg (by decide), show 2 * ((W >>> (j + 1) : Nat) : Int) = ((W >>> j : Nat) : Int) by omega]
    · have hb : ¬ (j : Int) ∈ l := fun h => by have := hm _ h; omega
      rw [hbit, if_neg (by simpa using hb)] at h2j
      rw [if_neg (by omega), show 2 * ((W >>> (j + 1) : Nat) : Int) = ((W >>> j : Nat) : Int) by omega]
theorem From_ev (n : Nat) (h1 : 1 ≤ n) (h2 : n ≤ 64) (l : List Int) (hm : ∀ p ∈ l, 0 ≤ p ∧ p < n) : Ev (fun k => downpourref01_From.f k (bitsL l n)) ((n : Int), [((orAll 0 l : Nat) : Int)]) := by
  have hlt : orAll 0 l < 2 ^ 64 := orAll_lt l 0 (by decide) fun p hp => by have := hm p hp; omega
  have h := From_go n h1 h2 l hm _ rfl 64 (by omega)
  rw [show orAll 0 l >>> 64 = 0 by rw [Nat.shiftRight_eq_div_pow]; exact Nat.div_eq_of_lt hlt] at h
  refine Ev.congr (fun k => ?_) (Ev.step (f := fun k => downpourref01_From.l1 k (bitsL l n) 0 ((0 : Nat) : Int) (((64 : Nat) : Int) - 1) n []) (g := fun k => downpourref01_From.l0 k (bitsL l n) 0 n []) (fun k => ?_) h)
  · unfold downpourref01_From.f; rw [bitsL_len]
  · simp only [downpourref01_From.l0]
    rw [bitsL_len, words_at n h1 h2]
    simp only [Option.bind_some]
    rw [if_pos (by omega)]
    rfl
theorem Of_go (n : Nat) (h1 : 1 ≤ n) (h2 : n ≤ 64) (l : List Int) (hl : l.length ≤ 4096) (hm : ∀ p ∈ l, 0 ≤ p ∧ p < n) : ∀ (d i : Nat), i + d = n →
    Ev (fun k => downpourref01_Of.l0 k n l (bitsL l i) i) ((n : Int), [((orAll 0 l : Nat) : Int)]) := by
  intro d
  induction d with
  | zero =>
    intro i hi
    obtain rfl : i = n := by omega
    refine Ev.step (f := fun k => (downpourref01_From.f k (bitsL l i)).bind fun bt => some (bt.1, bt.2)) (fun k => ?_) (Ev.bind (From_ev i h1 h2 l hm) (Ev.now _))
    simp only [downpourref01_Of.l0]
    rw [if_neg (by omega)]
  | succ d ih =>
    intro i hi
    have h := ih (i + 1) (by omega)
    rw [bitsL_succ] at h
    refine Ev.step (f := fun k => (downpourref01_In.f k l (i : Int)).bind fun t => downpourref01_Of.l0 k n l (bitsL l i ++ [if t = true then 1 else 0]) ((i + 1 : Nat) : Int)) (fun k => ?_) (Ev.bind (In_ev (i : Int) l hl) (Ev.congr (fun k => ?_) h))
    · simp only [downpourref01_Of.l0]
      rw [if_pos (by omega)]
      congr 1
      funext t
      have e1 : wrap64 ((i : Int) + 1) = ((i + 1 : Nat) : Int) := by rw [wrap64_in (by omega)]; rfl
      have e2 : (bitsL l i).length < 17592186044416 := by rw [bitsL_len]; omega
      cases t with
      | false => rw [if_neg (by decide), if_pos e2, e1]; rfl
      | true => rw [if_pos rfl, if_pos e2, e1]; rfl
    · by_cases hb : (i : Int) ∈ l
      · rw [if_pos hb, decide_eq_true hb]; rfl
      · rw [if_neg hb, decide_eq_false hb]; rfl
theorem Of_ref (n : Nat) (h1 : 1 ≤ n) (h2 : n ≤ 64) (l : List Int) (hl : l.length ≤ 4096) (hm : ∀ p ∈ l, 0 ≤ p ∧ p < n) : Ev (fun k => downpourref01_Of.f k n l) ((n : Int), [((orAll 0 l : Nat) : Int)]) :=
  Ev.congr (fun k => rfl) (Of_go n h1 h2 l hl hm n 0 (by omega))
theorem same_go (n : Int) (l : List Int) (hl : l.length ≤ 4096) : ∀ (d i : Nat), i + d = l.length → Ev (fun k => downpourref01_Same.l0 k l.length i n l n l) true := by
  intro d
  induction d with
  | zero =>
    intro i hi
    refine Ev.step (f := fun _ => some true) (fun k => ?_) (Ev.now _)
    simp only [downpourref01_Same.l0]
    rw [if_neg (by omega)]
  | succ d ih =>
    intro i hi
    refine Ev.step (fun k => ?_) (ih (i + 1) (by omega))
    simp only [downpourref01_Same.l0]
    rw [if_pos (by omega), if_pos (by omega), if_pos (by omega), if_pos (by omega), if_pos trivial, wrap64_in (by omega)]
    rfl
theorem same_ev (n : Int) (l : List Int) (hl : l.length ≤ 4096) : Ev (fun k => downpourref01_Same.f k n l n l) true := by
  refine Ev.congr (f := fun k => downpourref01_Same.j0 k false n l n l) (fun k => ?_) (Ev.step (fun k => ?_) (same_go n l hl l.length 0 (by omega)))
  · unfold downpourref01_Same.f
    rw [if_pos rfl]
    simp
  · simp only [downpourref01_Same.j0]
    rw [if_neg (by decide)]
    rfl
end Go.Proofs.Ytaofanhdmfdlmaa.Print

/-
What is proved: the places and the row of a symbol, by the program and by the reference, are the same. Condition: 1 ≤ k ≤ 64.
-/
namespace Go.Proofs.Ytaofanhdmfdlmaa.Print
open Go Go.RowKit Go.Proofs.YtaofanhdmfdlmaaW.PrintWords Go.Proofs.YtaofanhdmfdlmaaW.PrintLast Go.Proofs.YtaofanhdmfdlmaaW.PrintMore
set_option linter.unusedVariables false
theorem mixv_range (z : Int) : 0 ≤ mixv z ∧ mixv z ≤ 18446744073709551615 := by
  have h : ∃ a b, mixv z = Go.bits .xor .u64 a b := ⟨_, _, rfl⟩
  obtain ⟨a, b, h⟩ := h
  rw [h]
  have := bounds_u64 (wf_bits .xor .u64 a b)
  exact this
theorem few_in (n : Nat) (l : List Int) (hp : l.Perm (ints n)) (m : Nat) (x : Int) (h : x ∈ few l m) : 0 ≤ x ∧ x < n := by
  rw [few_filter n l hp m, List.mem_filter] at h
  have h1 := h.1
  unfold ints at h1
  rw [List.mem_map] at h1
  obtain ⟨j, hj, rfl⟩ := h1
  rw [List.mem_range] at hj
  omega
/-- A symbol's places. -/
theorem places_all (k : Int) (n : Nat) (hk : k = (n : Int)) (h1 : 1 ≤ k) (h2 : k ≤ 64) (id : Int) (i0 : 0 ≤ id) (i1 : id < M64) :
    ∃ m : Nat, ∃ L : List Int, 1 ≤ m ∧ m ≤ n ∧ L.length = m ∧ (∀ p ∈ L, 0 ≤ p ∧ p < n) ∧ Ev (fun K => neighbours_code_places.f K k (tabL k n) id) L ∧ Ev (fun K => downpourref08_Places.f K k id) L := by
  have hm := mixv_range id
  have hc := rb_nx_range (mixv id)
  obtain ⟨m, m1, m2, hp, hr⟩ := pick_both k n hk h1 h2 (rb_mx (mixv id)) (rb_mx_range _).1
  subst hk
  have hperm := shuffle_perm (rb_nx (mixv id)) n hc.1 hc.2 (by omega) (by omega)
  have hlen := shuffle_length (rb_nx (mixv id)) n hc.1 hc.2 (by omega) (by omega)
  refine ⟨m, few (shuffle (rb_nx (mixv id)) n).2 m, m1, m2, by rw [few_length, hlen]; omega, fun p h => few_in n _ hperm m p h, ?_, ?_⟩
  · have hs := Some_prog (rb_nx (mixv id)) n m hc.1 hc.2 (by omega) (by omega) m2
    refine Ev.congr (fun K => ?_) (Ev.bind (f := fun _ t => some t.2.1) hs (Ev.now _))
    unfold neighbours_code_places.f
    show ((degree_Pick.f (tabL (n : Int) n) (rb_mx (mixv id))).bind fun bt => (random_Some.f K (rb_nx (mixv id)) n bt.1).bind fun bt2 => some bt2.2.1) = _
    rw [hp]
    rfl
  · have hs := Some_ref (rb_nx (mixv id)) n m hc.1 hc.2 (by omega) (by omega) m2
    have e1 : downpourref06_Mixed.f id = some (mixv id) := ref_mixed id i0 i1
    have e2 : IntKind.u64.wrap (mixv id + 11400714819323198485) = rb_nx (mixv id) := rfl
    have e3 : downpourref06_Mixed.f (rb_nx (mixv id)) = some (rb_mx (mixv id)) := ref_mixed _ hc.1 hc.2
    refine Ev.congr (f := fun K => (downpourref07_Table.f K (n : Int)).bind fun t => (downpourref07_Pick.f K t (rb_mx (mixv id))).bind fun u => (downpourref06_Some.f K (rb_nx (mixv id)) (n : Int) u).bind fun bt => some bt.2) (fun K => ?_)
      (Ev.bind (Table_ref (n : Int) n rfl h1 h2) (Ev.bind hr (Ev.bind hs (Ev.now _))))
    unfold downpourref08_Places.f
    rw [e1, Option.bind_some, e2, e3]
    rfl
theorem of_ok (k : Int) (h1 : 1 ≤ k) (h2 : k ≤ 64) : neighbours_of.f k = some (k, tabL k k.toNat, 0) := by
  unfold neighbours_of.f degree_Table.f
  rw [if_pos ⟨h1, h2⟩]
  rfl
theorem of_bad (k : Int) (h : ¬ (1 ≤ k ∧ k ≤ 64)) : neighbours_of.f k = some (k, [], 2) := by
  unfold neighbours_of.f degree_Table.f
  rw [if_neg h]
  rfl
theorem Places_ev (k : Int) (h1 : 1 ≤ k) (h2 : k ≤ 64) (id : Int) (L : List Int) (h : Ev (fun K => neighbours_code_places.f K k (tabL k k.toNat) id) L) : Ev (fun K => neighbours_Places.f K k id) (L, 0) := by
  refine Ev.congr (fun K => ?_) (Ev.bind (f := fun _ t => some (t, (0 : Int))) h (Ev.now _))
  unfold neighbours_Places.f
  rw [of_ok k h1 h2, Option.bind_some, if_pos rfl]
theorem RowRef_ev (k : Int) (n : Nat) (hk : k = (n : Int)) (h1 : 1 ≤ k) (h2 : k ≤ 64) (id : Int) (L : List Int) (hl : L.length ≤ 4096) (hm : ∀ p ∈ L, 0 ≤ p ∧ p < n) (h : Ev (fun K => downpourref08_Places.f K k id) L) :
    Ev (fun K => downpourref08_Row.f K k id) (k, [((orAll 0 L : Nat) : Int)]) := by
  have h3 := Of_ref n (by omega) (by omega) L hl hm
  rw [← hk] at h3
  exact Ev.bind h (Ev.bind (f := fun _ bt => some (bt.1, bt.2)) h3 (Ev.now _))
theorem alive08 : Ev (fun k => downpourlaw08_alive.f k) true := by
  obtain ⟨m, L, m1, m2, hl, hm, hp, _⟩ := places_all 1 1 rfl (by decide) (by decide) 7 (by decide) (by decide)
  obtain rfl : m = 1 := by omega
  obtain ⟨x, rfl⟩ := List.length_eq_one_iff.1 hl
  have hx := hm x List.mem_cons_self
  obtain rfl : x = 0 := by omega
  exact Ev.bind (Places_ev 1 (by decide) (by decide) 7 [0] hp) (Ev.now _)
end Go.Proofs.Ytaofanhdmfdlmaa.Print

