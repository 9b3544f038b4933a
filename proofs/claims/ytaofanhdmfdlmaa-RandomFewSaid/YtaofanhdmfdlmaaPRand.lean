/-
What is proved: the numbers of a state, by the program and by the reference, are the same; a number is always found. Condition: the state is a uint64, 1 ≤ n ≤ 512.
-/
import Derived.Test.YtaofanhdmfdlmaaBelowDef
import Derived.Test.YtaofanhdmfdlmaaPrint36
namespace Go.Proofs.Ytaofanhdmfdlmaa.Print
open Go Go.RowKit Go.Proofs.YtaofanhdmfdlmaaW.PrintWords Go.Proofs.YtaofanhdmfdlmaaW.PrintLast Go.Proofs.YtaofanhdmfdlmaaW.PrintMore
set_option linter.unusedVariables false

def M64 : Int := 18446744073709551616
theorem u64_wrap (x : Int) : IntKind.u64.wrap x = x % M64 := by rw [IntKind.wrap_u64]; rfl
theorem rb_nx_eq (c : Int) : rb_nx c = (c + 11400714819323198485) % M64 := u64_wrap _
theorem rb_nx_range (c : Int) : 0 ≤ rb_nx c ∧ rb_nx c < M64 := by rw [rb_nx_eq]; unfold M64; omega
def mixv (z : Int) : Int := (random_mixed.f z).getD 0
theorem rb_mx_eq (c : Int) : rb_mx c = mixv (rb_nx c) := rfl
theorem mixv_zero : mixv 0 = 0 := by decide +kernel
theorem rb_rest_range (n : Int) (h1 : 1 ≤ n) (h2 : n ≤ 512) : 0 ≤ rb_rest n ∧ rb_rest n < 512 := by
  unfold rb_rest rb_res
  split
  · omega
  · have z1 := Int.emod_nonneg 18446744073709551616 (show n ≠ 0 by omega); have z2 := Int.emod_lt_of_pos 18446744073709551616 (show 0 < n by omega); omega
theorem rb_acc_iff (n x : Int) (h1 : 1 ≤ n) (h2 : n ≤ 512) (hx : 0 ≤ x ∧ x < M64) : rb_acc n x = decide (x ≤ M64 - 1 - rb_rest n) := by
  have hr := rb_rest_range n h1 h2
  unfold rb_acc
  generalize rb_rest n = r at *
  rw [u64_wrap]
  unfold M64 at *
  rw [Bool.eq_iff_iff]
  simp only [Bool.or_eq_true, decide_eq_true_eq]
  omega
theorem rb_acc_zero (n : Int) (h1 : 1 ≤ n) (h2 : n ≤ 512) : rb_acc n 0 = true := by
  have hr := rb_rest_range n h1 h2
  rw [rb_acc_iff n 0 h1 h2 (by unfold M64; omega)]
  unfold M64; simp; omega
theorem rb_go_some (n : Int) (h1 : 1 ≤ n) (h2 : n ≤ 512) : ∀ (m k : Nat) (c : Int), 0 ≤ c → c < M64 → 1 ≤ m → m ≤ k → (c + m * 11400714819323198485) % M64 = 0 →
    ∃ s j, rb_go k c n = some (s, j) ∧ 0 ≤ j ∧ j < n ∧ 0 ≤ s ∧ s < M64 := by
  intro m
  induction m with
  | zero => intro k c _ _ h; omega
  | succ m ih =>
    intro k c hc0 hc1 _ hk he
    obtain ⟨k, rfl⟩ : ∃ j, k = j + 1 := ⟨k - 1, by omega⟩
    simp only [rb_go]
    by_cases ha : rb_acc n (rb_mx c) = true
    · rw [if_pos ha]
      exact ⟨_, _, rfl, Int.emod_nonneg _ (by omega), Int.emod_lt_of_pos _ (by omega), (rb_nx_range c).1, (rb_nx_range c).2⟩
    · rw [if_neg ha]
      rcases Nat.eq_zero_or_pos m with h0 | h0
      · subst h0
        exfalso; apply ha
        have : rb_nx c = 0 := by rw [rb_nx_eq, ← he]; congr 1
        rw [rb_mx_eq, this, mixv_zero]
        exact rb_acc_zero n h1 h2
      · refine ih k (rb_nx c) (rb_nx_range c).1 (rb_nx_range c).2 h0 (by omega) ?_
        rw [rb_nx_eq, ← he]
        unfold M64
        omega
/-- How many steps it is to the state 0. -/
def rb_way (c : Int) : Nat := if (18446744073709551616 - c) * 17428512612931826493 % M64 = 0 then 18446744073709551616 else ((18446744073709551616 - c) * 17428512612931826493 % M64).toNat
theorem rb_way_eq (c q r : Int) (h : (18446744073709551616 - c) * 17428512612931826493 = 18446744073709551616 * q + r) :
    c + r * 11400714819323198485 = 18446744073709551616 * (1 + (18446744073709551616 - c) * 10771413168148108919 - q * 11400714819323198485) := by omega
theorem rb_way_spec (c : Int) (h0 : 0 ≤ c) (h1 : c < M64) : 1 ≤ rb_way c ∧ rb_way c ≤ rb_fuel ∧ (c + rb_way c * 11400714819323198485) % M64 = 0 := by
  unfold M64 at h1
  have e := rb_way_eq c _ _ (Int.mul_ediv_add_emod ((18446744073709551616 - c) * 17428512612931826493) 18446744073709551616).symm
  have z1 := Int.emod_nonneg ((18446744073709551616 - c) * 17428512612931826493) (show (18446744073709551616 : Int) ≠ 0 by decide)
  have z2 := Int.emod_lt_of_pos ((18446744073709551616 - c) * 17428512612931826493) (show (0 : Int) < 18446744073709551616 by decide)
  unfold rb_way rb_fuel M64
  generalize (18446744073709551616 - c) * 17428512612931826493 / 18446744073709551616 = q at *
  generalize (18446744073709551616 - c) * 17428512612931826493 % 18446744073709551616 = r at *
  generalize 1 + (18446744073709551616 - c) * 10771413168148108919 - q * 11400714819323198485 = y at *
  by_cases h : r = 0
  · rw [if_pos h]
    refine ⟨by decide, by decide, ?_⟩
    subst h
    have e2 : c = 18446744073709551616 * y := by omega
    rw [e2]
    omega
  · rw [if_neg h]
    obtain ⟨m, rfl⟩ := Int.eq_ofNat_of_zero_le z1
    rw [Int.toNat_natCast]
    refine ⟨by omega, by omega, ?_⟩
    rw [e]
    exact Int.mul_emod_right _ _
theorem rb_total (c n : Int) (h0 : 0 ≤ c) (h1 : c < M64) (hn : 1 ≤ n) (hn2 : n ≤ 512) : ∃ s j, random_below.f c n = some (s, j) ∧ 0 ≤ j ∧ j < n ∧ 0 ≤ s ∧ s < M64 := by
  obtain ⟨a, b, d⟩ := rb_way_spec c h0 h1
  unfold random_below.f
  rw [if_pos ⟨hn, hn2⟩]
  exact rb_go_some n hn hn2 _ _ c h0 h1 a b d
end Go.Proofs.Ytaofanhdmfdlmaa.Print
