/-
What is proved: bits.Div64 of 2^64 by a number from 2 to 512 tells the rest. Condition: none beside these bounds.
-/
import Derived.Test.YtaofanhdmfdlmaaPrint87
namespace Go.Proofs.Ytaofanhdmfdlmaa.Print
open Go Go.RowKit Go.Proofs.YtaofanhdmfdlmaaW.PrintWords Go.Proofs.YtaofanhdmfdlmaaW.PrintLast Go.Proofs.YtaofanhdmfdlmaaW.PrintMore
set_option maxRecDepth 100000
theorem div64_all : ∀ i : Fin 511, ((bits_Div64.f 6 1 0 ((i.val : Int) + 2)).map (·.2)) = some (18446744073709551616 % ((i.val : Int) + 2)) := by decide +kernel
/-- What is left of 2^64. -/
def rb_res (m : Int) : Int := 18446744073709551616 % m
theorem div64_at (m : Int) (h1 : 2 ≤ m) (h2 : m ≤ 512) : ∃ q, bits_Div64.f 6 1 0 m = some (q, rb_res m) := by
  unfold rb_res
  have h := div64_all ⟨(m - 2).toNat, by omega⟩
  have e : (((m - 2).toNat : Nat) : Int) + 2 = m := by omega
  simp only [e] at h
  obtain ⟨⟨q, r⟩, hq, hr⟩ := Option.map_eq_some_iff.1 h
  exact ⟨q, by rw [hq]; simpa using hr⟩
end Go.Proofs.Ytaofanhdmfdlmaa.Print
