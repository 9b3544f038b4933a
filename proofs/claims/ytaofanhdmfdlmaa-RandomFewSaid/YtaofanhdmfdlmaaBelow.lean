/-
What is proved: random.below is the first number of the state's that is not refused, modulo n. Condition: 1 ≤ n ≤ 512.
-/
import Derived.Test.YtaofanhdmfdlmaaBelowA
import Derived.Test.YtaofanhdmfdlmaaBelowB
import Derived.RegionIn
import Derived.OpenShut
import Derived.RegionTactic
import Derived.Test.YtaofanhdmfdlmaaPrint87
import Derived.Test.YtaofanhdmfdlmaaDivAt
import Derived.Test.YtaofanhdmfdlmaaPrint64
namespace Go.Proofs.Ytaofanhdmfdlmaa.Print
open Go Go.RowKit Go.Proofs.YtaofanhdmfdlmaaW.PrintWords Go.Proofs.YtaofanhdmfdlmaaW.PrintLast Go.Proofs.YtaofanhdmfdlmaaW.PrintMore Go.Proofs.Ytaofanhdmfdlmaa.Rng
theorem random_below.calls (a0 : Int) (a1 : Int) (r1 : Int) (r2 : Int) (w : World) (h : random_below.f a0 a1 = some (r1, r2)) :
    Calls Try.prog 83 #[.int .u64 a0, .int .i64 a1] w fun e w' => e = .returned (.tuple #[.int .u64 r1, .int .i64 r2]) ∧ Below w.heap.size w w' := by
  unfold random_below.f at h
  by_cases hc : 1 ≤ a1 ∧ a1 ≤ 512
  case neg => rw [if_neg hc] at h; cases h
  rw [if_pos hc] at h
  by_cases hone : a1 = 1
  · subst hone; exact below_one a0 r1 r2 w ⟨h⟩
  · exact below_more a0 a1 r1 r2 w hc.1 hc.2 hone ⟨h⟩
end Go.Proofs.Ytaofanhdmfdlmaa.Print
